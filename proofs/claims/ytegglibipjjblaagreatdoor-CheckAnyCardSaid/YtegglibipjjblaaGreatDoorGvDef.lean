/- A deterministic heap machine beside the model: its values, its heap, what it makes of a function's code. -/
import Derived.Orders
import Derived.KernelRfl
set_option linter.all false
theorem ax:type_of% @decide_eq_true:=@decide_eq_true
theorem aF:type_of% @decide_eq_false:=@decide_eq_false
theorem aO:type_of% @Nat.le_refl:=@Nat.le_refl
theorem aY:type_of% @Bool.and_eq_true:=@Bool.and_eq_true
theorem bj:type_of% @if_neg:=@if_neg
theorem bn:type_of% @Bool.not_false:=@Bool.not_false
theorem bp:type_of% @Int.toNat_natCast:=@Int.toNat_natCast
theorem br:type_of% @decide_eq_true_iff:=@decide_eq_true_iff
theorem bu:type_of% @Bool.not_true:=@Bool.not_true
theorem bB:type_of% @List.length_append:=@List.length_append
theorem bE:type_of% @if_pos:=@if_pos
theorem cq:type_of% @List.getElem?_eq_getElem:=@List.getElem?_eq_getElem
theorem cz:type_of% @Nat.zero_le:=@Nat.zero_le
theorem cB:type_of% @List.mem_singleton:=@List.mem_singleton
theorem cO:type_of% @List.length_cons:=@List.length_cons
theorem cR:type_of% @Nat.mul_one:=@Nat.mul_one
theorem cX:type_of% @List.length_take:=@List.length_take
theorem dF:type_of% @Bool.true_and:=@Bool.true_and
theorem dG:type_of% @List.take_of_length_le:=@List.take_of_length_le
theorem dK:type_of% @List.drop_zero:=@List.drop_zero
theorem dL:type_of% @Nat.eq_of_beq_eq_true:=@Nat.eq_of_beq_eq_true
theorem dW:type_of% @List.getD_eq_getElem?_getD:=@List.getD_eq_getElem?_getD
theorem ef:type_of% @List.getElem?_eq_some_iff:=@List.getElem?_eq_some_iff
theorem eF:type_of% @List.mem_cons:=@List.mem_cons
theorem eG:type_of% @beq_eq_false_iff_ne:=@beq_eq_false_iff_ne
theorem eO:type_of% @Nat.zero_add:=@Nat.zero_add
theorem fa:type_of% @List.length_drop:=@List.length_drop
theorem fq:type_of% @List.map_append:=@List.map_append
theorem fI:type_of% @List.append_assoc:=@List.append_assoc
theorem fT:type_of% @Option.some.injEq:=@Option.some.injEq
theorem gf:type_of% @Bool.false_and:=@Bool.false_and
theorem gx:type_of% @List.mem_append:=@List.mem_append
theorem gz:type_of% @List.append_nil:=@List.append_nil
theorem gA:type_of% @Nat.ble_eq_true_of_le:=@Nat.ble_eq_true_of_le
theorem gV:type_of% @Nat.add_zero:=@Nat.add_zero
theorem gY:type_of% @Nat.le_trans:=@Nat.le_trans
theorem iK:type_of% @List.length_singleton:=@List.length_singleton
theorem iV:type_of% @List.drop_eq_getElem_cons:=@List.drop_eq_getElem_cons
theorem jv:type_of% @List.getElem?_set_ne:=@List.getElem?_set_ne
theorem jH:type_of% @List.nil_append:=@List.nil_append
theorem jI:type_of% @Nat.lt_or_ge:=@Nat.lt_or_ge
theorem kA:type_of% @List.getElem_mem:=@List.getElem_mem
theorem kV:type_of% @Array.getElem?_toList:=@Array.getElem?_toList
theorem kW:type_of% @List.drop_drop:=@List.drop_drop
theorem kX:type_of% @List.getElem?_append_right:=@List.getElem?_append_right
theorem kY:type_of% @List.getElem?_cons_zero:=@List.getElem?_cons_zero
theorem kZ:type_of% @List.getElem?_set_self:=@List.getElem?_set_self
theorem lE:type_of% @Bool.eq_iff_iff:=@Bool.eq_iff_iff
theorem lF:type_of% @Bool.not_eq_true':=@Bool.not_eq_true'
theorem lG:type_of% @List.length_map:=@List.length_map
theorem lV:type_of% @Bool.or_eq_true:=@Bool.or_eq_true
theorem lW:type_of% @List.drop_eq_nil_of_le:=@List.drop_eq_nil_of_le
theorem lX:type_of% @List.take_succ_eq_append_getElem:=@List.take_succ_eq_append_getElem
theorem mH:type_of% @List.getElem?_append_left:=@List.getElem?_append_left
theorem mI:type_of% @Nat.lt_of_lt_of_le:=@Nat.lt_of_lt_of_le
theorem mJ:type_of% @if_true:=@if_true
theorem mK:type_of% @of_decide_eq_true:=@of_decide_eq_true
theorem nc:type_of% @List.take_add:=@List.take_add
theorem nf:type_of% @Option.map_some:=@Option.map_some
theorem ng:type_of% @if_false:=@if_false
theorem nQ:type_of% @List.cons_append:=@List.cons_append
theorem nR:type_of% @List.length_set:=@List.length_set
theorem nS:type_of% @Nat.min_eq_left:=@Nat.min_eq_left
theorem nT:type_of% @Nat.pow_le_pow_right:=@Nat.pow_le_pow_right
theorem oE:type_of% @Array.length_toList:=@Array.length_toList
theorem oF:type_of% @List.length_replicate:=@List.length_replicate
theorem oG:type_of% @List.map_cons:=@List.map_cons
theorem oH:type_of% @or_false:=@or_false
theorem pK:type_of% @List.mem_map:=@List.mem_map
theorem qw:type_of% @List.getElem?_cons_succ:=@List.getElem?_cons_succ
theorem qy:type_of% @List.range_succ:=@List.range_succ
theorem qz:type_of% @Nat.blt_eq:=@Nat.blt_eq
theorem qA:type_of% @Nat.le_of_ble_eq_true:=@Nat.le_of_ble_eq_true
theorem rO:type_of% @Array.getD_eq_getD_getElem?:=@Array.getD_eq_getD_getElem?
theorem rQ:type_of% @List.getElem?_map:=@List.getElem?_map
theorem rR:type_of% @List.nodup_append:=@List.nodup_append
theorem rS:type_of% @List.take_append_drop:=@List.take_append_drop
theorem rU:type_of% @List.take_length:=@List.take_length
theorem tj:type_of% @List.all_append:=@List.all_append
theorem tk:type_of% @List.ext_getElem?:=@List.ext_getElem?
theorem tl:type_of% @List.not_mem_nil:=@List.not_mem_nil
theorem tm:type_of% @Nat.add_comm:=@Nat.add_comm
theorem tn:type_of% @Nat.zero_mul:=@Nat.zero_mul
theorem uu:type_of% @Bool.false_eq_true:=@Bool.false_eq_true
theorem uv:type_of% @List.mem_cons_self:=@List.mem_cons_self
theorem uw:type_of% @List.mem_of_getElem?:=@List.mem_of_getElem?
theorem ux:type_of% @List.mem_range:=@List.mem_range
theorem uy:type_of% @Nat.add_assoc:=@Nat.add_assoc
theorem uz:type_of% @Nat.pow_succ:=@Nat.pow_succ
theorem uA:type_of% @beq_iff_eq:=@beq_iff_eq
theorem vQ:type_of% @Bool.and_true:=@Bool.and_true
theorem vR:type_of% @Bool.false_or:=@Bool.false_or
theorem vS:type_of% @List.all_cons:=@List.all_cons
theorem vT:type_of% @List.all_eq_true:=@List.all_eq_true
theorem vU:type_of% @Nat.add_mul:=@Nat.add_mul
theorem xo:type_of% @List.getElem?_take:=@List.getElem?_take
theorem xp:type_of% @Nat.succ_pos:=@Nat.succ_pos
theorem xq:type_of% @beq_self_eq_true:=@beq_self_eq_true
theorem zs:type_of% @List.foldl_append:=@List.foldl_append
theorem zu:type_of% @List.length_eq_zero_iff:=@List.length_eq_zero_iff
theorem zw:type_of% @List.map_map:=@List.map_map
theorem zy:type_of% @List.mem_cons_of_mem:=@List.mem_cons_of_mem
theorem zA:type_of% @List.nodup_cons:=@List.nodup_cons
theorem zB:type_of% @decide_eq_false_iff_not:=@decide_eq_false_iff_not
theorem zC:type_of% @decide_eq_true_eq:=@decide_eq_true_eq
theorem Be:type_of% @List.drop_of_length_le:=@List.drop_of_length_le
theorem Bf:type_of% @List.foldl_cons:=@List.foldl_cons
theorem Bg:type_of% @List.getElem?_drop:=@List.getElem?_drop
theorem Bh:type_of% @List.length_nil:=@List.length_nil
theorem Bi:type_of% @Nat.eq_zero_or_pos:=@Nat.eq_zero_or_pos
theorem Bj:type_of% @Nat.not_lt:=@Nat.not_lt
theorem Bk:type_of% @Nat.sub_self:=@Nat.sub_self
theorem C5:type_of% @Bool.and_false:=@Bool.and_false
theorem C6:type_of% @Bool.or_eq_false_iff:=@Bool.or_eq_false_iff
theorem C7:type_of% @Int.natCast_add:=@Int.natCast_add
theorem C8:type_of% @List.drop_left:=@List.drop_left
theorem C9:type_of% @List.drop_take:=@List.drop_take
theorem Da:type_of% @List.flatten_cons:=@List.flatten_cons
theorem Db:type_of% @List.take_take:=@List.take_take
theorem Dc:type_of% @Nat.eq_of_testBit_eq:=@Nat.eq_of_testBit_eq
theorem Dd:type_of% @Nat.lt_of_le_of_lt:=@Nat.lt_of_le_of_lt
theorem De:type_of% @Nat.mul_comm:=@Nat.mul_comm
theorem E8:type_of% @List.eq_nil_of_length_eq_zero:=@List.eq_nil_of_length_eq_zero
theorem E9:type_of% @List.filter_append:=@List.filter_append
theorem Fa:type_of% @List.getElem?_of_mem:=@List.getElem?_of_mem
theorem Fb:type_of% @List.mem_filter:=@List.mem_filter
theorem Fc:type_of% @List.take_left:=@List.take_left
theorem Fe:type_of% @Nat.beq_refl:=@Nat.beq_refl
theorem Ff:type_of% @Nat.div_div_eq_div_mul:=@Nat.div_div_eq_div_mul
theorem Fg:type_of% @Nat.div_le_self:=@Nat.div_le_self
theorem Fh:type_of% @Nat.mul_le_mul_right:=@Nat.mul_le_mul_right
theorem Fi:type_of% @Nat.sub_zero:=@Nat.sub_zero
theorem Fj:type_of% @Nat.succ_mul:=@Nat.succ_mul
theorem Fk:type_of% @Prod.mk.injEq:=@Prod.mk.injEq
theorem Fl:type_of% @of_decide_eq_false:=@of_decide_eq_false
theorem HB:type_of% @Bool.cond_false_right:=@Bool.cond_false_right
theorem HC:type_of% @List.flatten_append:=@List.flatten_append
theorem HD:type_of% @List.getElem?_eq_none:=@List.getElem?_eq_none
theorem HE:type_of% @List.pairwise_map:=@List.pairwise_map
theorem HF:type_of% @Nat.mul_eq_zero:=@Nat.mul_eq_zero
theorem HG:type_of% @Nat.testBit_and:=@Nat.testBit_and
theorem HH:type_of% @Nat.testBit_lt_two_pow:=@Nat.testBit_lt_two_pow
theorem HI:type_of% @Nat.xor_lt_two_pow:=@Nat.xor_lt_two_pow
theorem HJ:type_of% @Option.some.inj:=@Option.some.inj
theorem HK:type_of% @UInt8.toNat_inj:=@UInt8.toNat_inj
theorem Ll:type_of% @BitVec.toNat_and:=@BitVec.toNat_and
theorem Lm:type_of% @List.getElem?_replicate:=@List.getElem?_replicate
theorem Ln:type_of% @List.getElem?_toArray:=@List.getElem?_toArray
theorem Lo:type_of% @List.map_congr_left:=@List.map_congr_left
theorem Lq:type_of% @List.mem_append_right:=@List.mem_append_right
theorem Lr:type_of% @List.pairwise_append:=@List.pairwise_append
theorem Lt:type_of% @List.pairwise_iff_getElem:=@List.pairwise_iff_getElem
theorem Lv:type_of% @List.range'_succ:=@List.range'_succ
theorem Lx:type_of% @List.take_add_one:=@List.take_add_one
theorem Ly:type_of% @Nat.ne_of_beq_eq_false:=@Nat.ne_of_beq_eq_false
theorem Lz:type_of% @Nat.pow_lt_pow_right:=@Nat.pow_lt_pow_right
theorem LA:type_of% @Option.isSome_none:=@Option.isSome_none
theorem PX:type_of% @Array.getElem?_append_left:=@Array.getElem?_append_left
theorem PY:type_of% @Array.getElem?_setIfInBounds_self_of_lt:=@Array.getElem?_setIfInBounds_self_of_lt
theorem PZ:type_of% @List.extract_eq_take_drop:=@List.extract_eq_take_drop
theorem P1:type_of% @Nat.and_two_pow_sub_one_eq_mod:=@Nat.and_two_pow_sub_one_eq_mod
theorem P3:type_of% @Nat.mod_two_eq_zero_or_one:=@Nat.mod_two_eq_zero_or_one
theorem ae{α:Sort _}(a b:α):cond true a b=a:=rfl
theorem af{α:Sort _}(a b:α):cond false a b=b:=rfl
namespace Go.Gv
inductive DV where
 |bool (b:Bool)
 |int (k:IntKind) (n:Int)
 |str (s:List UInt8)
 |ptr (a:Option (Nat×Nat))
 |slice (sz:Nat) (a:Option (Nat×Nat)) (len:Nat)
 |agg (cs:List DV)
 |func (g:Nat) (first cap:List DV)
 |nilFunc
 |iface (t:Nat) (v:DV)
 |nilIface
 |nat (n:Nat)
abbrev DV.i(n:Int):DV:=.int .i64 n
abbrev DV.w(n:Int):DV:=.int .u64 n
abbrev DV.u(n:Int):DV:=.int .u8 n
abbrev DV.y(n:Int):DV:=.int .u32 n
abbrev DV.b:=DV.bool
abbrev DV.s:=DV.slice
abbrev DV.a:=DV.agg
abbrev DV.p:=DV.ptr
abbrev DV.t:=DV.str
structure bO where
 dQ:Bool
 cells:List DV
abbrev St:=List (Option bO)
inductive Out (β:Type) where
 |val (b:β)
 |fp
abbrev M (β:Type):=St->Option (Out β×St)
abbrev Zf:=Nat->List DV->M (List DV)
variable {β:Type}
def fail:M β:=λ_=>none
abbrev bs (l:List UInt8):List UInt8:=l
def St.cells (s:St) (i:Nat):Option (List DV):=
 match s[i]? with
 |some (some b)=>some b.cells
 |_=>none
def St.ik (s:St) (i:Nat):Option (List DV):=
 match s[i]? with
 |some (some ⟨false,cs⟩)=>some cs
 |_=>none
def ov:List DV->List DV->List DV
 |_::cs,d::ds=>d::ov cs ds
 |cs,[]=>cs
 |[],_=>[]
def cE:List DV->Nat->List DV->List DV
 |cs,0,ds=>ov cs ds
 |c::cs,k+1,ds=>c::cE cs k ds
 |[],_+1,_=>[]
def bH (a:Option (Nat×Nat)) (K:Nat->Nat->M β):M β:=
 match a with
 |some (i,o)=>K i o
 |none=>fail
def bS (i o n:Nat) (K:List DV->M β):M β:=λs=>
 match s.cells i with
 |some cs=>bif Nat.ble (o+n) cs.length then K ((cs.drop o).take n) s else none
 |none=>none
def bD (i o:Nat) (K:DV->M β):M β:=λs=>
 match s.cells i with
 |some cs=>match cs[o]? with
  |some d=>K d s
  |none=>none
 |none=>none
def dI (i o:Nat) (ds:List DV) (K:M β):M β:=λs=>
 match s.ik i with
 |some cs=>bif Nat.ble (o+ds.length) cs.length then K (s.set i (some ⟨false,cE cs o ds⟩))else none
 |none=>none
def cd (cells:List DV) (K:Nat->M β):M β:=λs=>K s.length (s++[some ⟨false,cells⟩])
def dy (a:Option (Nat×Nat)) (n:Nat) (K:List DV->M β):M β:=
 match a with
 |some (i,o)=>bS i o n K
 |none=>bif Nat.beq n 0 then K []else fail
def Af (a:Option (Nat×Nat)) (ds:List DV) (K:M β):M β:=
 match a with
 |some (i,o)=>dI i o ds K
 |none=>bif Nat.beq ds.length 0 then K else fail
def cm (sz:Nat) (a:Option (Nat×Nat)) (len:Nat) (ds:List DV) (m lim:Nat) (K:Option (Nat×Nat)->M β):M β:=λs=>
 bif Nat.beq m 0 then K a s else
 bif Nat.ble (len+m) lim then
  match a with
  |none=>bif Nat.beq len 0 then K (some (s.length,0)) (s++[some ⟨false,ds⟩])else none
  |some (i,o)=>match s.ik i with
   |some cs=>bif Nat.ble (o+len*sz) cs.length then K (some (s.length,0)) (s.set i none++[some ⟨false,(cs.drop o).take (len*sz)++ds⟩])else none
   |none=>none
 else none
def aC (b:Bool) (K:M β):M β:=bif b then K else fail
variable {α β:Type}
def cQ (m:M α) (K:α->M β):M β:=λs=>
 match m s with
 |some (.val ds,s')=>K ds s'
 |some (.fp,s')=>some (.fp,s')
 |none=>none
def St.Wq (s s':St):Prop:=∃r,s'=s++r
open Classical in
noncomputable def su (m:M α) (K:α->M β):M β:=λs=>
 match m s with
 |some (.val ds,s')=>if St.Wq s s' then K ds s' else none
 |_=>none
def uZ (m:M α) (K:α->M β):M β:=λs=>
 match m s with
 |some (.val ds,s')=>K ds s'
 |_=>none
def u7 (m:M (List DV)) (H:Bool->M β):M β:=λs=>
 match m s with
 |some (.val _,s')=>H false s'
 |some (.fp,s')=>H true s'
 |none=>none
open Classical in
noncomputable def Ja (i:Nat) (m:M α):M α:=λs=>
 match m s with
 |some (.val ds,s')=>if s'[i]? =s[i]? then some (.val ds,s')else none
 |r=>r
def Ae:M β:=λs=>some (.fp,s)
def gD (f:Nat->M β):M β:=λs=>f s.length s
def Z1 (b:Nat) (s:St):St:=s.take b++(s.drop b).map (λx=>x.map λk=> { k with dQ:=true })
def ay (ds:β):M β:=λs=>some (.val ds,s)
def bZ (b:Nat) (ds:β):M β:=λs=>some (.val ds,Z1 b s)
theorem ZwS (f:List DV->M β) (g:(List DV->M β)->M β): ∃x:M β,∀f' g',f'=f->g'=g->x=g' f':=by simp
noncomputable def cK (f:List DV->M β) (g:(List DV->M β)->M β):M β:=Classical.choose (ZwS f g)
theorem NF (f:List DV->M β) (g:(List DV->M β)->M β):cK f g=g f:=Classical.choose_spec (ZwS f g) f g rfl rfl
def cS (F:(List DV->M β)->List DV->M β):Nat->List DV->M β
 |0,_=>fail
 |n+1,st=>F (cS F n) st
def tM (d:DV) (K:Bool->M β):M β:=match d with| .bool b=>K b|_=>fail
def vF:IntKind->IntKind->Bool
 | .i8,.i8| .i16,.i16| .i32,.i32| .i64,.i64| .u8,.u8| .u16,.u16| .u32,.u32| .u64,.u64=>true
 |_,_=>false
def cY (k:IntKind) (d:DV) (K:Int->M β):M β:=match d with| .int k' n=>bif vF k' k then K n else fail|_=>fail
def BW (d:DV) (K:List UInt8->M β):M β:=match d with| .str s=>K s|_=>fail
def BV (d:DV) (K:Option (Nat×Nat)->M β):M β:=match d with| .ptr a=>K a|_=>fail
def dr (sz:Nat) (d:DV) (K:Option (Nat×Nat)->Nat->M β):M β:=
 match d with| .slice z a n=>bif Nat.beq z sz||a.isNone then K a n else fail|_=>fail
def VM (d:DV) (K:Nat->List DV->List DV->M β):M β:=match d with| .func g f c=>K g f c|_=>fail
def tL (d:DV) (K:List DV->M β):M β:=match d with| .agg cs=>K cs|_=>fail
def aaH (d:DV) (K:Nat->M β):M β:=match d with| .nat n=>K n|_=>fail
def kE (cs:List DV) (K:DV->List DV->M β):M β:=match cs with|d::r=>K d r|[]=>fail
def aL (cs:List DV) (K:M β):M β:=match cs with|[]=>K|_=>fail
def VL (n:Nat) (cs:List DV) (K:List DV->List DV->M β):M β:=bif Nat.ble n cs.length then K (cs.take n) (cs.drop n)else fail
def eJ (cs:List DV) (i:Nat) (K:DV->M β):M β:=match cs[i]? with|some d=>K d|none=>fail
def bA (ds:List DV) (n:Nat) (K:M β):M β:=bif Nat.beq ds.length n then K else fail
def uY (pn:M β) (d:DV) (t:Nat) (K:DV->M β):M β:=match d with| .iface t' v=>bif Nat.beq t' t then K v else pn| .nilIface=>pn|_=>fail
def tE:List DV->Option (List UInt8)
 |[]=>some []
 | .int .u8 n::r=>(tE r).map (UInt8.ofNat n.toNat:: ·)
 |_=>none
def ke (cs:List DV) (K:List UInt8->M β):M β:=match tE cs with|some l=>K l|none=>fail
def gC (st:List DV) (K:Bool->List DV->M β):M β:=kE st λd r=>tM d λx=>K x r
def aD (k:IntKind) (st:List DV) (K:Int->List DV->M β):M β:=kE st λd r=>cY k d λx=>K x r
def eR (st:List DV) (K:List UInt8->List DV->M β):M β:=kE st λd r=>BW d λx=>K x r
def qS (st:List DV) (K:Option (Nat×Nat)->List DV->M β):M β:=kE st λd r=>BV d λx=>K x r
def bW (sz:Nat) (st:List DV) (K:Option (Nat×Nat)->Nat->List DV->M β):M β:=kE st λd r=>dr sz d λa n=>K a n r
def VN (st:List DV) (K:Nat->List DV->List DV->List DV->M β):M β:=kE st λd r=>VM d λg f c=>K g f c r
def ba (st:List DV) (K:List DV->List DV->M β):M β:=kE st λd r=>tL d λx=>K x r
def aaJ (st:List DV) (K:Nat->List DV->M β):M β:=kE st λd r=>aaH d λx=>K x r
def aaI (st:List DV) (K:DV->List DV->M β):M β:=kE st K
inductive B where
 |bool|int (k:IntKind)|str|ptr|slice (sz:Nat)|func|any|fb (n:Nat)
abbrev B.i:=B.int .i64
abbrev B.w:=B.int .u64
abbrev B.u:=B.int .u8
abbrev B.y:=B.int .u32
abbrev B.b:=B.bool
abbrev B.s:=B.slice
abbrev B.p:=B.ptr
abbrev B.t:=B.str
inductive Sh where
 |b (x:B)
 |agg (l:List B)
def d1 (x:B) (d:DV) (K:DV->M β):M β:=
 match x with
 | .bool=>tM d λb=>K (.bool b)
 | .int k=>cY k d λn=>K (.int k n)
 | .str=>BW d λs=>K (.str s)
 | .ptr=>BV d λa=>K (.ptr a)
 | .slice sz=>dr sz d λa n=>K (.slice sz a n)
 | .func=>VM d λg f c=>K (.func g f c)
 | .any=>K d
 | .fb _=>fail
def nY:List B->List DV->(List DV->M β)->M β
 |[],cs,K=>aL cs (K [])
 |[.fb n],cs,K=>bA cs n (K cs)
 | .fb n::r,cs,K=>VL n cs λxs rest=>nY r rest λds=>K (xs++ds)
 |x::r,cs,K=>kE cs λd rest=>d1 x d λd'=>nY r rest λds=>K (d'::ds)
def Ak (x:Sh) (d:DV) (K:DV->M β):M β:=
 match x with
 | .b x=>d1 x d K
 | .agg l=>tL d λcs=>nY l cs λds=>K (.agg ds)
def B4:List Sh->List DV->(List DV->M β)->M β
 |[],cs,K=>aL cs (K [])
 |x::r,cs,K=>kE cs λd rest=>Ak x d λd'=>B4 r rest λds=>K (d'::ds)
def glue:List B->List B
 |[]=>[]
 | .fb n::r=>match glue r with
  | .fb m::r'=> .fb (n+m)::r'
  |r'=> .fb n::r'
 |x::r=>x::glue r
def NJ (P:Program):Nat->TypeId->List B
 |0,_=>[.any]
 |n+1,t=>
  match P.underlying t with
  |some .bool=>[.bool]
  |some (.int k)=>[.int k]
  |some .string=>[.str]
  |some (.pointer _)=>[.ptr]
  |some (.slice e)=>[.slice (P.cellsOf e)]
  |some (.func _ _ _)=>[.func]
  |some (.array m e)=>bif Nat.ble (m*P.cellsOf e) 8 then(List.replicate m (NJ P n e)).flatten else[.fb (m*P.cellsOf e)]
  |some (.struct fs)=>glue (fs.toList.flatMap λf=>NJ P n f.type)
  |_=>[.any]
def jj (P:Program) (t:TypeId):Bool:=
 match P.underlying t with
 |some (.struct _)|some (.array _ _)=>true
 |_=>false
def nb (P:Program) (t:TypeId):Sh:=
 bif jj P t then .agg (NJ P 20 t)else
 match NJ P 1 t with
 |[x]=> .b x
 |_=> .b .any
def acM (P:Program) (t:TypeId):Bool×List Sh:=
 match P.underlying t with
 |some (.tuple ts)=>(true,ts.toList.map (nb P))
 |_=>(false,[nb P t])
structure bC where
 P:Program
 fn:Nat->Nat
 cov:Nat->Bool
 ty:Nat->Nat
 gl:Nat->Nat
 Cd:Nat->Bool
 D3:Nat->List B
 mp:Nat->Bool
def CN:Value->Option DV
 | .bool b=>some (.bool b)
 | .int k n=>some (.int k n)
 | .string s=>some (.str s.data.toList)
 | .pointer none=>some (.ptr none)
 | .slice none 0 0=>some (.slice 0 none 0)
 | .nilFunc=>some .nilFunc
 | .nilIface=>some .nilIface
 |_=>none
def I8:List Value->Option (List DV)
 |[]=>some []
 |v::r=>match CN v,I8 r with
  |some d,some ds=>some (d::ds)
  |_,_=>none
inductive eQ where
 |u
 |un
 |v (d:DV)
 |qm (ds:List DV)
 |loc (v n:Nat) (cs:List DV)
 |pl (r v o:Nat)
 |it (v:Nat) (s:List UInt8) (pos:Nat)
structure Env where
 bQ:Nat
 l:List (Nat×eQ)
def look:List (Nat×eQ)->Nat->eQ
 |[],_=> .u
 |(k,e)::r,t=>bif Nat.beq k t then e else look r t
def Env.get (E:Env) (t:Nat):eQ:=look E.l t
def Env.put (E:Env) (t:Nat) (e:eQ):Env:=⟨E.bQ,(t,e)::E.l⟩
def Env.fg (E:Env) (t:Option Nat) (e:eQ):Env:=match t with|some t=>E.put t e|none=>E
def has:List Nat->Nat->Bool
 |[],_=>false
 |k::r,t=>Nat.beq k t||has r t
def Gl:List (Nat×eQ)->List Nat->List (Nat×eQ)
 |[],_=>[]
 |(k,e)::r,ts=>bif has ts k then Gl r ts else(k,e)::Gl r ts
def Env.del (E:Env) (ts:List Nat):Env:=⟨E.bQ,Gl E.l ts⟩
def Env.src (C:bC) (E:Env):Operand->eQ
 | .tmp t=>match E.get t with
  | .loc v _ _=> .pl t v 0
  | .it _ _ _=> .u
  |e=>e
 | .const v=>(match CN v with|some d=> .v d|none=> .u)
 | .global g=>bif C.Cd g then .v (.ptr (some (C.gl g,0)))else .u
 | .func f=>bif C.cov f then .v (.func (C.fn f) [] [])else .u
def fA (C:bC) (E:Env) (x:Operand) (K:DV->M β):M β:=
 match E.src C x with
 | .v d=>K d
 |_=>fail
def A9 (C:bC) (E:Env):List Operand->(List DV->M β)->M β
 |[],K=>K []
 |x::r,K=>fA C E x λd=>A9 C E r λds=>K (d::ds)
def NC (E:Env) (r v:Nat) (K:Nat->List DV->M β):M β:=
 match E.get r with
 | .loc v' n cs=>bif Nat.beq v' v then K n cs else fail
 |_=>fail
def D0 (C:bC) (E:Env) (x:Operand) (KL:Nat->Nat->Nat->M β) (KH:Nat->Nat->M β):M β:=
 match E.src C x with
 | .pl r v o=>KL r v o
 | .v (.ptr a)=>bH a KH
 |_=>fail
def CG (C:bC) (E:Env) (x:Operand) (K:Int->M β):M β:=fA C E x λd=>match d with| .int _ n=>K n|_=>fail
def Wu (C:bC) (E:Env) (x:Operand) (K:Bool->M β):M β:=fA C E x λd=>match d with| .bool b=>K b|_=>fail
def B5:B->DV->DV->Option Bool
 | .bool,.bool a,.bool b=>some (a==b)
 | .int k0,.int k a,.int k' b=>bif vF k0 k&&vF k k' then some (a==b)else none
 | .str,.str a,.str b=>some (a==b)
 |_,_,_=>none
def nv:List B->List DV->List DV->Option Bool
 |[],[],[]=>some true
 |k::ks,a::r,b::r'=>match B5 k a b,nv ks r r' with
  |some x,some y=>some (x&&y)
  |_,_=>none
 |_,_,_=>none
def adu (ag:List B) (xs ys:List DV) (K:Bool->M β):M β:=match nv ag xs ys with|some b=>K b|none=>fail
def NV (u:Option TypeDesc) (ag:List B) (a b:DV) (K:Bool->M β):M β:=
 match a,b with
 | .bool x,.bool y=>(match u with|some .bool=>K (x==y)|_=>fail)
 | .int k x,.int k' y=>bif vF k k' then K (x==y)else fail
 | .str x,.str y=>K (x==y)
 | .ptr x,.ptr none=>(match u with|some (.pointer _)=>K x.isNone|_=>fail)
 | .ptr none,.ptr x=>(match u with|some (.pointer _)=>K x.isNone|_=>fail)
 | .slice _ x _,.slice _ none _=>(match u with|some (.slice _)=>K x.isNone|_=>fail)
 | .slice _ none _,.slice _ x _=>(match u with|some (.slice _)=>K x.isNone|_=>fail)
 | .agg xs,.agg ys=>(match ag with|[]=>fail|k::ks=>(match nv (k::ks) xs ys with|some b=>K b|none=>fail))
 |_,_=>fail
def ar (n:Int):Int:=IntKind.i64.wrap n
def bits (op:BinOp) (k:IntKind) (x y:Int):Int:=
 let a:=BitVec.ofInt k.bits x
 let b:=BitVec.ofInt k.bits y
 match op with
 | .and=>k.wrap (a&&& b).toNat
 | .or=>k.wrap (a|||b).toNat
 | .xor=>k.wrap (a^^^b).toNat
 |_=>k.wrap (a&&& ~~~b).toNat
def strLt:List UInt8->List UInt8->Bool:=Op.bytesLess
def aaZ (u:Option TypeDesc) (ag:List B) (op:BinOp) (a b:DV) (K:DV->M β):M β:=
 match op with
 | .eql=>NV u ag a b λr=>K (.bool r)
 | .neq=>NV u ag a b λr=>K (.bool !r)
 | .shl=>match a,b with
  | .int k x,.int _ y=>aC (decide (0<=y)) (K (.int k (k.wrap (x*2^(min y.toNat k.bits)))))
  |_,_=>fail
 | .shr=>match a,b with
  | .int k x,.int _ y=>aC (decide (0<=y)) (K (.int k (x.fdiv (2^(min y.toNat k.bits)))))
  |_,_=>fail
 |op=>match a,b with
  | .int k x,.int k' y=>bif vF k k' then
    match op with
    | .add=>K (.int k (k.wrap (x+y)))
    | .sub=>K (.int k (k.wrap (x-y)))
    | .mul=>K (.int k (k.wrap (x*y)))
    | .quo=>aC (!(y==0)) (K (.int k (k.wrap (x.tdiv y))))
    | .rem=>aC (!(y==0)) (K (.int k (x.tmod y)))
    | .and| .or| .xor| .andNot=>K (.int k (bits op k x y))
    | .lss=>K (.bool (decide (x<y)))
    | .leq=>K (.bool (decide (x<=y)))
    | .gtr=>K (.bool (decide (x>y)))
    | .geq=>K (.bool (decide (x>=y)))
    |_=>fail
   else fail
  | .str x,.str y=>
   match op with
   | .add=>aC (Nat.ble (x.length+y.length) 4611686018427387904) (K (.str (x++y)))
   | .lss=>K (.bool (strLt x y))
   | .leq=>K (.bool (strLt x y||x==y))
   | .gtr=>K (.bool !(strLt x y||x==y))
   | .geq=>K (.bool !(strLt x y))
   |_=>fail
  |_,_=>fail
def unK (op:UnOp) (a:DV) (K:DV->M β):M β:=
 match op,a with
 | .not,.bool b=>K (.bool !b)
 | .neg,.int k n=>K (.int k (k.wrap (0-n)))
 |_,_=>fail
def aR (i:Int) (n:Nat):Bool:=decide (0<=i)&&decide (i<n)
def ZS (s:List UInt8) (i:Int):Int:=((s.getD i.toNat 0).toNat:Int)
def ZQ (s:List UInt8):List DV:=s.map λb=> .int .u8 b.toNat
def enc (n:Int):List UInt8:=(Utf8.encode n).data.toList
def dec (s:List UInt8) (i:Nat):Nat×Nat:=
 let at' (k:Nat):Nat:=(s.getD (i+k) 0).toNat
 let cont (k:Nat):Bool:=decide (i+k<s.length)&&at' k/64==2
 let b0:=at' 0
 if b0<0x80 then(b0,1)
 else if b0/32==6&&cont 1 then
  let c:=(b0%32)*64+at' 1%64
  if c>=0x80 then(c,2)else(Utf8.runeError,1)
 else if b0/16==14&&cont 1&&cont 2 then
  let c:=(b0%16)*4096+(at' 1%64)*64+at' 2%64
  if c>=0x800&&Utf8.valid c then(c,3)else(Utf8.runeError,1)
 else if b0/8==30&&cont 1&&cont 2&&cont 3 then
  let c:=(b0%8)*262144+(at' 1%64)*4096+(at' 2%64)*64+at' 3%64
  if c>=0x10000&&Utf8.valid c then(c,4)else(Utf8.runeError,1)
 else(Utf8.runeError,1)
def DU (s:List UInt8) (i:Nat):Int:=((dec s i).1:Int)
def vL (s:List UInt8) (i:Nat):Nat:=(dec s i).2
def il (n:Nat) (z:List DV):List DV:=(List.replicate n z).flatten
def xT (P:Program) (t:TypeId):Option TypeId:=match P.underlying t with|some (.slice e)=>some e|_=>none
def MY (P:Program) (t:TypeId):Nat:=match P.info? t with|some i=>i.bytes|none=>0
def CI (P:Program) (e:TypeId):Nat:=70368744177664/(MY P e)
def np (P:Program) (t:TypeId):Option (List DV):=match P.info? t with|some i=>(match i.zero with|some z=>I8 z.cells.toList|none=>none)|none=>none
def one:DV->Bool
 | .agg _=>false
 |_=>true
def rI (P:Program) (t:TypeId) (K:M β):M β:=match P.underlying t with|some _=>K|none=>fail
def Nz (P:Program) (t:TypeId) (d:DV) (K:List DV->M β):M β:=
 rI P t (bif jj P t then(match d with| .agg cs=>bA cs (P.cellsOf t) (K cs)|_=>fail)
  else bif Nat.beq (P.cellsOf t) 1 then aC (one d) (K [d])else fail)
def yY (n m:Nat) (cs:List DV) (p:Nat) (ds:List DV):List DV:=bif Nat.beq m n&&Nat.beq p 0 then ds else cE cs p ds
def CH (E:Env) (C:bC) (N:Nat) (place:Nat->Option (Nat×Nat)):List (Nat×Operand)->List DV->(List DV->M β)->M β
 |[],cs,K=>K cs
 |(i,x)::r,cs,K=>match place i with
  |none=>fail
  |some (o,n)=>bif Nat.ble (o+n) N then fA C E x λd=>
   match d with
   | .agg ds=>bA ds n (CH E C N place r (yY N n cs o ds) K)
   |d=>bif Nat.beq n 1 then aC (one d) (CH E C N place r (cE cs o [d]) K)else fail
   else fail
def Vv (P:Program) (t:TypeId):Nat->Option (Nat×Nat):=
 match P.underlying t with
 |some (.struct fs)=>λi=>match fs[i]? with|some f=>some (f.offset,P.cellsOf f.type)|none=>none
 |some (.array _ e)=>λi=>some (i*P.cellsOf e,P.cellsOf e)
 |_=>λ_=>none
def ZtN (P:Program) (t:TypeId):Bool:=
 match P.underlying t with
 |some (.struct fs)=>fs.toList.all λf=>(P.info? f.type).isSome
 |some (.array _ e)=>(P.info? e).isSome
 |_=>false
def Np (pr:List Nat) (o:Oper) (n:Nat) (cells:List DV) (E:Env) (K:Env->M β):M β:=
 match o.dst with
 |some t=>bif has pr t then K ⟨E.bQ+1,(t,.loc E.bQ n cells)::E.l⟩else cd cells λi=>K (E.put t (.v (.ptr (some (i,0)))))
 |none=>fail
def IX (C:bC) (E:Env) (len:Nat) (lo hi:Option Operand) (K:Nat->Nat->M β):M β:=
 let low (h:Nat):M β:=match lo with
  |none=>K 0 h
  |some x=>CG C E x λl=>aC (decide (0<=l)&&decide (l<=h)) (K l.toNat h)
 match hi with
 |none=>low len
 |some x=>CG C E x λh=>aC (decide (0<=h)&&decide (h<=len)) (low h.toNat)
def Gj (lo hi:Bool) (s:List UInt8) (l h:Nat):List UInt8:=
 bif hi then(bif lo then(s.take h).drop l else s.take h)else(bif lo then s.drop l else s)
def cU (lo:Bool) (a:Option (Nat×Nat)) (k:Nat):Option (Nat×Nat):=bif lo then(match a with|some (i,o)=>some (i,k+o)|none=>none)else a
def Jm (lo:Bool) (l h:Nat):Nat:=bif lo then h-l else h
def part (n:Nat) (cs:List DV) (p m:Nat):List DV:=bif Nat.beq m n&&Nat.beq p 0 then cs else(cs.drop p).take m
def ta (pr:List Nat):List Oper->Nat->Nat->Option Nat
 |_,0,_=>none
 |ops,n+1,t=>bif has pr t then some t else
  match ops.find? λo=>match o.dst with|some d=>Nat.beq d t|none=>false with
  |some o=>match o.op with
   | .fieldAddr _ (.tmp u) _| .indexAddr _ (.tmp u) _| .move (.tmp u)| .nilCheck (.tmp u)=>ta pr ops n u
   |_=>none
  |none=>none
def yQ (pr:List Nat) (ops:List Oper):List Oper->List Nat
 |[]=>[]
 |o::r=>
  let m:=yQ pr ops r
  let m:=match o.dst with|some d=>d::m|none=>m
  match o.op with
  | .store _ (.tmp a) _=>match ta pr ops 12 a with|some t=>t::m|none=>m
  | .next (.tmp t) _=>t::m
  |_=>m
def mD (pr:List Nat):Code->List Nat
 | .region _ ops _=>yQ pr ops.toList ops.toList
 | .seq a b| .cond _ a b=>mD pr a++mD pr b
 | .block _ b| .loop b| .scope b=>mD pr b
 |_=>[]
inductive lZ where
 |pure|hp|wr|call|xh (r:Nat)|pH (r:Nat)
 |lp (a:Nat)|ap (bs:List Nat)
inductive Md where
 |s
 |d (k:lZ) (x:Nat)
def Md.loc:Md->Nat->Bool
 | .s,_=>true
 | .d (.xh q) _,r=>Nat.beq q r
 | .d (.pH q) _,r=>Nat.beq q r
 |_,_=>false
def Md.NW:Md->Bool
 | .s=>true
 | .d (.xh _) _=>false
 | .d (.pH _) _=>false
 |_=>true
def Md.x:Md->Nat
 | .s=>0
 | .d _ x=>x
def cls (P:Program) (pr:List Nat) (ops:List Oper) (o:Oper):lZ:=
 match o.op with
 | .load _ (.tmp a)=>match ta pr ops 12 a with|some r=> .xh r|none=> .lp a
 | .load _ _=> .hp
 | .store _ (.tmp a) _=>match ta pr ops 12 a with|some r=> .pH r|none=> .ap []
 | .store .. => .wr
 | .alloc _| .box _ _| .buildSlice .. | .makeSlice .. | .convert .. | .range .. => .hp
 | .slice t .. =>match P.underlying t with|some (.array _ _)=> .hp|_=> .pure
 | .move _| .assign _| .pick .. | .build .. | .nilCheck _| .binOp .. | .unOp .. | .fieldAddr .. | .field .. | .indexAddr .. | .index .. | .extract .. | .makeInterface .. | .makeFunc .. => .pure
 | .call q=>match q.callee with
  | .builtin .len| .builtin .min| .builtin .max=> .pure
  | .builtin .append=> .ap []
  | .value _=>bif has pr 1000000 then .ap []else .call
  |_=> .wr
 | .next (.tmp t) _=> .pH t
 |_=> .wr
section
variable (C:bC) (E:Env) (o:Oper) (K:Env->M β)
def cD (d:DV):M β:=K (E.fg o.dst (.v d))
def AW (e:eQ):M β:=K (E.fg o.dst e)
def V4 (b y z:Operand):M β:=Wu C E b λb=>bif b then AW E o K (E.src C y)else AW E o K (E.src C z)
def Vy (pr:List Nat) (t:TypeId):M β:=
 match np C.P t with
 |some z=>bif Nat.beq z.length (C.P.cellsOf t)then Np pr o (C.P.cellsOf t) z E K else fail
 |none=>fail
def YU (pr:List Nat) (t:TypeId) (y:Operand):M β:=fA C E y λd=>Nz C.P t d λcs=>Np pr o (C.P.cellsOf t) cs E K
def V1 (t:TypeId) (ps:Array (Nat×Operand)):M β:=
 match np C.P t with
 |some z=>bif ZtN C.P t then CH E C z.length (Vv C.P t) ps.toList z λcs=>cD E o K (.agg cs)else fail
 |none=>fail
def SA (t:TypeId) (len:Nat) (ps:Array (Nat×Operand)):M β:=
 match xT C.P t with
 |some e=>match np C.P e with
  |some z=>bif Nat.ble (len*C.P.cellsOf e) 100000&&Nat.beq z.length (C.P.cellsOf e)then
    CH E C (len*C.P.cellsOf e) (λi=>some (i*C.P.cellsOf e,C.P.cellsOf e)) ps.toList (il len z) λcs=>
     cd cs λi=>cD E o K (.slice (C.P.cellsOf e) (some (i,0)) len)
    else fail
  |none=>fail
 |none=>fail
def NA (md:Md) (t:TypeId) (a:Operand):M β:=
 rI C.P t (D0 C E a
  (λr v p=>bif md.loc r then NC E r v λn cs=>
   match nb C.P t with
   | .b y=>eJ cs p λd=>d1 y d (cD E o K)
   | .agg _=>aC (Nat.ble (p+C.P.cellsOf t) n) (cD E o K (.agg (part n cs p (C.P.cellsOf t))))
   else fail)
  (λi p=>bif md.NW then
   match nb C.P t with
   | .b y=>bD i p λd=>d1 y d (cD E o K)
   | .agg l=>bS i p (C.P.cellsOf t) λcs=>nY l cs λds=>cD E o K (.agg ds)
   else fail))
def VJ (md:Md) (ms:List Nat) (t:TypeId) (a y:Operand):M β:=
 fA C E y λd=>Nz C.P t d λds=>D0 C E a
  (λr v p=>bif has ms r&&md.loc r then NC E r v λn cs=>aC (Nat.ble (p+C.P.cellsOf t) n) (K (E.put r (.loc v n (yY n (C.P.cellsOf t) cs p ds))))else fail)
  (λi p=>bif md.NW then dI i p ds (K E)else fail)
def TB (y:Operand):M β:=D0 C E y (λr v p=>AW E o K (.pl r v p)) (λi p=>cD E o K (.ptr (some (i,p))))
def YT (op:BinOp) (t:TypeId) (y z:Operand):M β:=fA C E y λa=>fA C E z λb=>aaZ (C.P.underlying t) (C.D3 t) op a b (cD E o K)
def YW (op:UnOp) (y:Operand):M β:=fA C E y λa=>unK op a (cD E o K)
def Pe (P:Program) (e:TypeId):Bool:=match P.underlying e with|some (.int .u8)=>true|_=>false
def Uw (s t:TypeId) (y:Operand):M β:=
 rI C.P s (match C.P.underlying t with
  |some (.int k)=>fA C E y λd=>(match d with| .int _ n=>cD E o K (.int k (k.wrap n))|_=>fail)
  |some .string=>(match C.P.underlying s with
   |some (.int _)=>fA C E y λd=>(match d with| .int _ n=>cD E o K (.str (enc n))|_=>fail)
   |some .string=>fA C E y λd=>(match d with| .str l=>cD E o K (.str l)|_=>fail)
   |some (.slice e)=>bif Pe C.P e then fA C E y λd=>(match d with
    | .slice z a n=>bif Nat.beq z 1||a.isNone then dy a n λcs=>ke cs λl=>cD E o K (.str l)else fail
    |_=>fail)else fail
   |_=>fail)
  |some (.slice e)=>bif Pe C.P e then fA C E y λd=>(match d with
    | .str l=>cd (ZQ l) λi=>cD E o K (.slice 1 (some (i,0)) l.length)
    |_=>fail)else fail
  |_=>fail)
def Vn (t:TypeId) (y:Operand):M β:=
 match C.P.underlying t with
 |some (.interface _)=>fail
 |some _=>fA C E y λd=>cD E o K (.iface (C.ty t) d)
 |none=>fail
def Wc (f:Fn) (first cap:Array Operand):M β:=
 match f with
 | .func f=>bif C.cov f then A9 C E first.toList λfs=>A9 C E cap.toList λcs=>cD E o K (.func (C.fn f) fs cs)else fail
 |_=>fail
def Tb (t:TypeId) (l c:Operand):M β:=
 match xT C.P t with
 |some e=>match np C.P e with
  |some z=>bif Nat.beq z.length (C.P.cellsOf e)then CG C E l λn=>CG C E c λm=>
    aC (decide (0<=n)&&decide (n<=m)&&decide (m<=CI C.P e)) (cd (il n.toNat z) λi=>cD E o K (.slice (C.P.cellsOf e) (some (i,0)) n.toNat))else fail
  |none=>fail
 |none=>fail
def VY (t:TypeId) (y:Operand) (lo hi:Option Operand):M β:=
 match C.P.underlying t with
 |some .string=>fA C E y λd=>(match d with
  | .str s=>IX C E s.length lo hi λl h=>cD E o K (.str (Gj lo.isSome hi.isSome s l h))
  |_=>fail)
 |some (.slice e)=>rI C.P e (fA C E y λd=>(match d with
  | .slice z a n=>bif Nat.beq z (C.P.cellsOf e)||a.isNone then IX C E n lo hi λl h=>cD E o K (.slice z (cU lo.isSome a (l*C.P.cellsOf e)) (Jm lo.isSome l h))else fail
  |_=>fail))
 |some (.array m e)=>rI C.P e (fA C E y λd=>(match d with
  | .ptr a=>bH a λi p=>bS i p (m*C.P.cellsOf e) λ_=>IX C E m lo hi λl h=>cD E o K (.slice (C.P.cellsOf e) (cU lo.isSome (some (i,p)) (l*C.P.cellsOf e)) (Jm lo.isSome l h))
  |_=>fail))
 |_=>fail
def L8 (t:TypeId) (y:Operand) (f:Nat):M β:=
 match C.P.underlying t with
 |some (.struct fs)=>(match fs[f]? with
  |some f=>bif Nat.beq (C.P.cellsOf f.type) 0 then fail else D0 C E y (λr v p=>AW E o K (.pl r v (p+f.offset))) (λi p=>cD E o K (.ptr (some (i,p+f.offset))))
  |none=>fail)
 |_=>fail
def Vz (t:TypeId) (y:Operand) (f:Nat):M β:=
 match C.P.underlying t with
 |some (.struct fs)=>(match fs[f]? with
  |some f=>rI C.P f.type (fA C E y λd=>(match d with
   | .agg cs=>bif jj C.P f.type then cD E o K (.agg ((cs.drop f.offset).take (C.P.cellsOf f.type)))else eJ cs f.offset λd=>Ak (nb C.P f.type) d (cD E o K)
   |_=>fail))
  |none=>fail)
 |_=>fail
def Ta (t:TypeId) (y i:Operand):M β:=
 CG C E i λn=>match C.P.underlying t with
 |some (.slice e)=>rI C.P e (fA C E y λd=>(match d with
  | .slice z a m=>bif Nat.beq z (C.P.cellsOf e)||a.isNone then bH a λj p=>aC (aR n m) (cD E o K (.ptr (some (j,n.toNat*C.P.cellsOf e+p))))else fail
  |_=>fail))
 |some (.array m e)=>rI C.P e (D0 C E y
  (λr v p=>aC (aR n m) (AW E o K (.pl r v (n.toNat*C.P.cellsOf e+p))))
  (λj p=>aC (aR n m) (cD E o K (.ptr (some (j,n.toNat*C.P.cellsOf e+p))))))
 |_=>fail
def Vt (t:TypeId) (y i:Operand):M β:=
 CG C E i λn=>fA C E y λd=>match C.P.underlying t,d with
 |some .string,.str s=>aC (aR n s.length) (cD E o K (.int .u8 (ZS s n)))
 |some (.array m e),.agg cs=>rI C.P e (aC (aR n m) (bif jj C.P e then cD E o K (.agg ((cs.drop (n.toNat*C.P.cellsOf e)).take (C.P.cellsOf e)))else eJ cs (n.toNat*C.P.cellsOf e) λd=>Ak (nb C.P e) d (cD E o K)))
 |_,_=>fail
def VX (t:TypeId) (y:Operand):M β:=
 match C.P.underlying t with
 |some .string=>fA C E y λd=>match d,o.dst with
  | .str s,some t=>K ⟨E.bQ+1,(t,.it E.bQ s 0)::E.l⟩
  |_,_=>fail
 |_=>fail
def Wd (ms:List Nat) (t:Nat):M β:=
 match E.get t,o.dst with
 | .it v s p,some d=>bif Nat.beq d t|| !has ms t then fail else
   bif Nat.blt p s.length then K ((E.put t (.it v s (p+vL s p))).put d (.qm [.bool true,.int .i64 p,.int .i32 (DU s p)]))
   else K (E.put d (.qm [.bool false]))
 |_,_=>fail
def KZ (md:Md):M β:=bif Nat.beq md.x 0 then Ae else fail
def Vi (md:Md) (t:TypeId) (y:Operand):M β:=
 match C.P.underlying t with
 |some (.interface _)=>fail
 |some _=>fA C E y λd=>uY (KZ md) d (C.ty t) λd=>Ak (nb C.P t) d (cD E o K)
 |none=>fail
def UT (t i:Nat):M β:=
 match E.get t with
 | .qm ds=>(match ds[i]? with|some d=>cD E o K d|none=>fail)
 |_=>fail
def VZ (md:Md) (y:Operand):M β:=fA C E y λd=>match d with| .iface _ _=>KZ md|_=>fail
noncomputable def NO (md:Md) (m:M (List DV)) (K:List DV->M β):M β:=
 match md.x with
 |0=>cQ m K
 |1=>uZ m K
 |_=>su m K
def Md.bs:Md->List Nat
 | .d (.ap bs) _=>bs
 |_=>[]
noncomputable def Gi (E:Env):List Nat->M (List DV)->M (List DV)
 |[],m=>m
 |b::r,m=>match E.get b with
  | .v (.ptr (some (i,_)))=>Ja i (Gi E r m)
  |_=>fail
noncomputable def We (md:Md) (c:Zf) (f:Operand) (as:Array Operand):M β:=
 fA C E f λfv=>A9 C E as.toList λas=>match fv with
 | .func g fs cs=>match acM C.P o.type with
  |(true,K7)=>bif Nat.beq K7.length 1 then fail else NO md (Gi E md.bs (c g (fs++as++cs))) λds=>B4 K7 ds λds=>AW E o K (.qm ds)
  |(false,K7)=>NO md (Gi E md.bs (c g (fs++as++cs))) λds=>B4 K7 ds λds=>match ds with|[d]=>cD E o K d|_=>fail
 |_=>fail
def YV (ts:Array TypeId) (as:Array Operand):M β:=
 match as.toList,ts[0]? with
 |[y],some t=>(match C.P.underlying t with
  |some (.array m _)=>cD E o K (.int .i64 m)
  |some .string=>fA C E y λd=>(match d with| .str s=>cD E o K (.int .i64 s.length)|_=>fail)
  |some (.slice _)=>fA C E y λd=>(match d with| .slice _ _ n=>cD E o K (.int .i64 n)|_=>fail)
  |_=>fail)
 |_,_=>fail
def YQ (P:Program) (ts:Array TypeId) (K:M β):M β:=
 match ts[1]? with
 |none=>K
 |some t=>match P.underlying t with
  |some (.int _)=>fail
  |some _=>K
  |none=>fail
def U0 (ts:Array TypeId) (as:Array Operand):M β:=
 match as.toList,ts[0]? with
 |[y,z],some t=>(match xT C.P t with
  |some e=>rI C.P e (YQ C.P ts (match np C.P e with
   |some zv=>bif !Nat.beq zv.length (C.P.cellsOf e)then fail else fA C E y λa=>fA C E z λb=>(match a,b with
    | .slice w p n,.slice w' p' m=>bif (Nat.beq w (C.P.cellsOf e)||p.isNone)&&(Nat.beq w' (C.P.cellsOf e)||p'.isNone)then
      dy p' (m*C.P.cellsOf e) λds=>cm (C.P.cellsOf e) p n ds m (CI C.P e) λHl=>cD E o K (.slice (C.P.cellsOf e) Hl (n+m))else fail
    | .slice w p n,.str l=>bif (Nat.beq w 1||p.isNone)&&Nat.beq (C.P.cellsOf e) 1 then cm 1 p n (ZQ l) l.length (CI C.P e) λHl=>cD E o K (.slice 1 Hl (n+l.length))else fail
    |_,_=>fail)
   |none=>fail))
  |none=>fail)
 |_,_=>fail
def Wa (ts:Array TypeId) (as:Array Operand):M β:=
 match as.toList,ts[0]? with
 |[y,z],some t=>(match xT C.P t with
  |some e=>rI C.P e (fA C E y λa=>fA C E z λb=>(match a,b with
   | .slice w p n,.slice w' p' m=>bif (Nat.beq w (C.P.cellsOf e)||p.isNone)&&(Nat.beq w' (C.P.cellsOf e)||p'.isNone)then dy p' (min m n*C.P.cellsOf e) λds=>Af p ds (cD E o K (.int .i64 (min m n)))else fail
   | .slice w p n,.str l=>bif (Nat.beq w 1||p.isNone)&&Nat.beq (C.P.cellsOf e) 1 then Af p (ZQ (l.take n)) (cD E o K (.int .i64 (min l.length n)))else fail
   |_,_=>fail))
  |none=>fail)
 |_,_=>fail
def Pq (mx:Bool) (as:Array Operand):M β:=
 match as.toList with
 |[y,z]=>fA C E y λa=>fA C E z λb=>(match a,b with
  | .int k a,.int k' b=>bif vF k k' then cD E o K (.int k (bif mx then(if a<b then b else a)else(if b<a then b else a)))else fail
  |_,_=>fail)
 |_=>fail
def VW (ts:Array TypeId) (as:Array Operand):M β:=
 match as.toList,ts[0]? with
 |[y],some t=>(match xT C.P t with
  |some e=>fA C E y λa=>(match a,np C.P e with
   | .slice w p n,some z=>bif (Nat.beq w (C.P.cellsOf e)||p.isNone)&&Nat.beq z.length (C.P.cellsOf e)then Af p (il n z) (AW E o K (.qm []))else fail
   |_,_=>fail)
  |none=>fail)
 |_,_=>fail
end
def apart (p:Option (Nat×Nat)) (i:Nat):Bool:=match p with|some (j,_)=> !Nat.beq i j|none=>true
def Jj (E:Env) (p:Option (Nat×Nat)):List Nat->M β->M β
 |[],K=>K
 |b::r,K=>match E.get b with
  | .v (.ptr (some (i,_)))=>aC (apart p i) (Jj E p r K)
  |_=>fail
def Wh (C:bC) (E:Env) (bs:List Nat) (as:Array Operand) (X:M β):M β:=
 match bs with
 |[]=>X
 |b::r=>match as.toList with
  |y::_=>fA C E y λa=>(match a with| .slice _ p _=>Jj E p (b::r) X|_=>fail)
  |_=>fail
def stK (C:bC) (E:Env) (bs:List Nat) (a:Operand) (X:M β):M β:=
 match bs with
 |[]=>X
 |b::r=>match E.src C a with
  | .v (.ptr p)=>Jj E p (b::r) X
  |_=>fail
noncomputable def fG (C:bC) (pr ms:List Nat) (md:Md) (c:Zf) (o:Oper) (E:Env) (K:Env->M β):M β:=
 match o.op with
 | .move y| .assign y=>AW E o K (E.src C y)
 | .pick b y z=>V4 C E o K b y z
 | .alloc t=>Vy C E o K pr t
 | .box t y=>YU C E o K pr t y
 | .build t ps=>V1 C E o K t ps
 | .buildSlice t len ps=>SA C E o K t len ps
 | .load t a=>NA C E o K md t a
 | .store t a y=>bif o.dst.isNone then stK C E md.bs a (VJ C E K md ms t a y)else fail
 | .nilCheck y=>TB C E o K y
 | .binOp op t y z _=>YT C E o K op t y z
 | .unOp op _ y=>YW C E o K op y
 | .convert s t y=>Uw C E o K s t y
 | .makeInterface t y=>Vn C E o K t y
 | .makeFunc f first cap=>Wc C E o K f first cap
 | .makeSlice t l c=>Tb C E o K t l c
 | .slice t y lo hi none=>VY C E o K t y lo hi
 | .fieldAddr t y f=>L8 C E o K t y f
 | .field t y f=>Vz C E o K t y f
 | .indexAddr t y i=>Ta C E o K t y i
 | .index t y i=>Vt C E o K t y i
 | .range t y=>VX C E o K t y
 | .next (.tmp t) true=>Wd E o K ms t
 | .typeAssert y _ t false=>Vi C E o K md t y
 | .extract (.tmp t) i=>UT E o K t i
 | .panic y=>VZ C E md y
 | .call q=>match q.callee with
  | .value f=>We C E o K md c f q.args
  | .builtin .len=>YV C E o K q.argTypes q.args
  | .builtin .append=>Wh C E md.bs q.args (U0 C E o K q.argTypes q.args)
  | .builtin .copy=>Wa C E o K q.argTypes q.args
  | .builtin .min=>Pq C E o K false q.args
  | .builtin .max=>Pq C E o K true q.args
  | .builtin .clear=>VW C E o K q.argTypes q.args
  |_=>fail
 |_=>fail
def AV (C:bC) (E:Env) (x:Operand) (K:Nat->Nat->M β):M β:=match E.src C x with
 | .v (.ptr (some (i,p)))=>K i p
 |_=>fail
def xX (i p:Nat) (K:IntKind->Int->M β):M β:=bD i p λd=>match d with
 | .int k n=>K k n
 |_=>fail
def iu (i p:Nat) (k:IntKind) (n:Int) (K:M β):M β:=bD i p λd=>match d with
 | .int k' n'=>bif vF k k'&&(n==n')then K else fail
 |_=>fail
def gQ:List (Oper×Md)->List Nat
 |[]=>[]
 |(o,_)::r=>match o.dst with|some d=>d::gQ r|none=>gQ r
def DJ (r:Nat):List (Oper×Md)->List (Oper×Md)->Option (List (Oper×Md)×Oper×List (Oper×Md))
 |_,[]=>none
 |acc,(o,x)::rest=>match o.op with
  | .pick (.tmp t) _ _=>bif Nat.beq t r then some (acc.reverse,o,rest)else DJ r ((o,x)::acc) rest
  |_=>DJ r ((o,x)::acc) rest
def N0:List (Nat×Bool)->Nat×Bool->Bool
 |[],_=>false
 |(k,b)::r,g=>(Nat.beq k g.1&&(b==g.2))||N0 r g
def N1 (act:List (Nat×Bool)):Option (Nat×Bool)->Bool
 |none=>true
 |some g=>N0 act g
def D5 (pr:List Nat) (dst:Nat->Option Nat) (j:Nat) (w:Bool) (r:Nat):List Nat->List (Oper×Md)->Bool
 |_,[]=>true
 |aaa,(o,_)::rest=>
  (match o.op with
   | .store .. | .next .. | .range .. =>false
   | .alloc _| .box _ _=>(match o.dst with|some d=> !has pr d|none=>false)
   |_=>true)&&
  (match o.guard with
   |none=>false
   |some (j',w')=>(Nat.beq j' j&&(w'==w))||(match dst j' with|some d=>has aaa d|none=>false))&&
  (match o.dst with
   |some d=> !Nat.beq d r&&D5 pr dst j w r (d::aaa) rest
   |none=>D5 pr dst j w r aaa rest)
noncomputable def tI (C:bC) (pr ms:List Nat) (c:Zf) (dst:Nat->Option Nat):Nat->List (Oper×Md)->List (Nat×Bool)->Env->(Env->M β)->M β
 |_,[],_,E,K=>K E
 |0,_::_,_,_,_=>fail
 |n+1,(o,x)::rest,act,E,K=>
  bif N1 act o.guard then fG C pr ms x c o E λE'=>tI C pr ms c dst n rest act E' K
  else match o.guard with
   |none=>fail
   |some (j,w)=>match dst j with
    |none=>fail
    |some r=>match E.get r,DJ r [] ((o,x)::rest)with
     | .v (.bool b),some (eM,pk,oB)=>match pk.op,pk.dst with
      | .pick _ y z,some t=>
       bif N1 act pk.guard&&D5 pr dst j w r [] eM then
        cK (λst=>kE st λd st=>tM d λv=>aL st (tI C pr ms c dst n oB act ((E.del (gQ eM)).put t (.v (.bool v))) K))
         λjk=>
          let yes:M β:=tI C pr ms c dst n eM ((j,w)::act) (E.put r (.v (.bool w))) λE1=>fA C E1 (bif w then y else z) λd=>jk [d]
          let no:M β:=fA C ((E.del (gQ eM)).put r (.v (.bool !w))) (bif w then z else y) λd=>jk [d]
          bif w then(bif b then yes else no)else(bif b then no else yes)
       else fail
      |_,_=>fail
     |_,_=>fail
def Ai:lZ->lZ->Bool
 | .pure,_|_,.pure=>false
 | .pH r,.xh q| .xh r,.pH q| .pH r,.pH q=>Nat.beq r q
 | .xh _,_|_,.xh _| .pH _,_|_,.pH _=>false
 | .ap bs,.lp b| .lp b,.ap bs=> !has bs b
 | .wr,_|_,.wr| .ap _,_|_,.ap _=>true
 | .call,.call=>true
 |_,_=>false
def V9:lZ->lZ->Bool
 | .ap _,.lp _=>true
 |k,k'=>Ai k k'
structure gB where
 bf:Nat
 k:lZ
 dst:Option Nat
 lk:Nat
def Gd (o:Oper) (acc:List Nat):Nat:=o.after.toList.foldl (λm e=>bif Region.binds .any e then m|||2^e.on|||acc.getD e.on 0 else m) 0
def rC (pr:List Nat) (ops:List Oper) (o:Oper):Nat:=
 let m:=o.op.operands.toList.foldl (λm x=>match x with| .tmp t=>m|||2^t|_=>m) 0
 let m:=match o.guard with
  |some (j,_)=>(match ops[j]? with|some g=>(match g.dst with|some t=>m|||2^t|none=>m)|none=>m)
  |none=>m
 match o.op with
 | .load _ (.tmp a)=>(match ta pr ops 12 a with|some r=>m|||2^r|none=>m)
 | .store _ (.tmp a) _=>(match ta pr ops 12 a with|some r=>m|||2^r|none=>m)
 |_=>m
def Ji (m:Nat):Nat->List Oper->List Nat
 |_,[]=>[]
 |j,o::r=>match o.op with
  | .load _ (.tmp b)=>bif m.testBit j then Ji m (j+1) r else b::Ji m (j+1) r
  |_=>Ji m (j+1) r
def yO (b:Nat) (o:Oper):Bool:=match o.op with
 | .load _ (.tmp a)=>Nat.beq a b
 |_=>false
def KK (b:Nat):List Oper->Bool
 |[]=>true
 |o::r=>bif yO b o then(o::r).all (λo=>match o.dst with|some d=> !Nat.beq d b|none=>true)else KK b r
def vM (pr:List Nat) (ops:List Oper) (k m:Nat):lZ->lZ
 | .ap _=> .ap ((Ji m 0 (ops.take k)).filter λb=>KK b (ops.take k)&&(ta pr ops 12 b).isNone)
 |c=>c
def rE (P:Program) (pr:List Nat) (ops:List Oper):List Oper->List Nat->List gB
 |[],_=>[]
 |o::r,acc=>let b:=Gd o acc;⟨b,vM pr ops acc.length b (cls P pr ops o),o.dst,rC pr ops o⟩::rE P pr ops r (acc++[b])
def NT (d:Option Nat) (m:Nat):Bool:=match d with|some t=>m.testBit t|none=>false
def WC (d e:Option Nat):Bool:=match d,e with|some t,some u=>Nat.beq t u|_,_=>false
def Nq (i:Nat) (p:gB):List gB->Bool
 |[]=>true
 |q::r=>(q.bf.testBit i||(!V9 p.k q.k&& !NT p.dst q.lk&& !NT q.dst p.lk&& !WC p.dst q.dst))&&Nq i p r
def EO:Nat->List gB->List Oper->Bool
 |_,[],_=>true
 |_,_::_,[]=>false
 |i,p::r,o::os=>Nat.blt p.bf (2^i)&&(match o.guard with|some (j,_)=>p.bf.testBit j|none=>true)&&Nq i p r&&EO (i+1) r os
def we (i bi:Nat) (f:lZ->Bool):Nat->List gB->Bool
 |_,[]=>false
 |j,q::r=>(!Nat.beq i j&& !q.bf.testBit i&& !bi.testBit j&&f q.k)||we i bi f (j+1) r
def Hj:lZ->Bool
 | .hp=>true
 | .lp _=>true
 |_=>false
def DW:lZ->Bool
 | .pure=>true
 | .xh _=>true
 |_=>false
def BM (i bi:Nat):Nat->List gB->Bool
 |_,[]=>false
 |j,q::r=>(!Nat.beq i j&& !q.bf.testBit i&& !bi.testBit j&& !(Nat.blt j i&&DW q.k))||BM i bi (j+1) r
def YM (mp:Nat->Bool) (o:Oper):Bool:=match o.op with
 | .call q=>(match q.callee with
  | .value (.func f)=>mp f
  |_=>false)
 |_=>false
def flags (mp:Nat->Bool) (all:List gB):Nat->List gB->List Oper->List (Oper×Md)
 |_,[],_=>[]
 |_,_,[]=>[]
 |i,p::r,o::os=>
  (o,.d p.k (bif we i p.bf (λ_=>true) 0 all then(bif YM mp o&& !BM i p.bf 0 all then 0 else(match p.k with| .call=>(bif we i p.bf Hj 0 all then 2 else 1)|_=>1))else 0))::flags mp all (i+1) r os
noncomputable def PC (C:bC) (pr:List Nat) (c:Zf) (ops:Array Oper) (draw:Bool) (E:Env) (K:Env->M β):M β:=
 let l:=ops.toList
 let ms:=yQ pr l l
 let dst (j:Nat):Option Nat:=match l[j]? with|some o=>o.dst|none=>none
 bif draw then
  let is:=rE C.P pr l l []
  bif EO 0 is l then tI C pr ms c dst l.length (flags C.mp is 0 is l) [] E K else fail
 else tI C pr ms c dst l.length (l.map λo=>(o,.s)) [] E K
inductive JS where
 |v (x:Sh)
 |l (x:List B)
 |t
inductive qB where
 |z
 |n (a b:qB)
 |j (J:List (Nat×JS)) (a b:qB)
def qB.a:qB->qB| .n a _=>a| .j _ a _=>a| .z=> .z
def qB.b:qB->qB| .n _ b=>b| .j _ _ b=>b| .z=> .z
def sF (E0 E:Env):List (Nat×JS)->(List DV->M β)->M β
 |[],K=>K []
 |(t,x)::r,K=>match x,E.get t with
  | .v _,.v d=>sF E0 E r λds=>K (d::ds)
  | .l _,.loc v _ cs=>(match E0.get t with| .loc v0 _ _=>bif Nat.beq v0 v then sF E0 E r λds=>K (.agg cs::ds)else fail|_=>fail)
  | .t,.it v _ p=>(match E0.get t with| .it v0 _ _=>bif Nat.beq v0 v then sF E0 E r λds=>K (.nat p::ds)else fail|_=>fail)
  |_,_=>fail
def sW (E:Env):List (Nat×JS)->List DV->Env->(Env->M β)->M β
 |[],st,E1,K=>aL st (K E1)
 |(t,x)::r,st,E1,K=>kE st λd rest=>match x,E.get t with
  | .v x,_=>Ak x d λd=>sW E r rest (E1.put t (.v d)) K
  | .l x,.loc v n _=>tL d λcs=>nY x cs λcs=>sW E r rest (E1.put t (.loc v n cs)) K
  | .t,.it v s _=>aaH d λp=>sW E r rest (E1.put t (.it v s p)) K
  |_,_=>fail
def CP (hU:List Nat):List (Nat×JS)->Bool
 |[]=>true
 |(t,_)::r=>has hU t&&CP hU r
noncomputable def YD (E:Env) (hU:List Nat) (J:List (Nat×JS)) (K:Env->M β) (g:((Env->M β)->M β)):M β:=
 bif CP hU J then cK (λst=>sW E J st (E.del hU) K) λjk=>g λE1=>sF E E1 J jk else fail
noncomputable def exec (C:bC) (pr:List Nat) (c:Zf) (n:Nat):Code->qB->(Env->M β)->(Nat->Env->M β)->(Env->M β)->Env->M β
 | .skip,_,kn,_,_,E=>kn E
 | .seq a b,A,kn,kx,kr,E=>exec C pr c n a A.a (λE'=>exec C pr c n b A.b kn kx kr E') kx kr E
 | .region _ ops d,_,kn,_,_,E=>PC C pr c ops d E kn
 | .cond x a b,A,kn,kx,kr,E=>Wu C E x λv=>
   match A with
   | .j J A1 A2=>YD E (mD pr a++mD pr b) J kn λjk=>bif v then exec C pr c n a A1 jk kx kr E else exec C pr c n b A2 jk kx kr E
   |A=>bif v then exec C pr c n a A.a kn kx kr E else exec C pr c n b A.b kn kx kr E
 | .block id body,A,kn,kx,kr,E=>
   match A with
   | .j J A1 _=>YD E (mD pr body) J kn λjk=>exec C pr c n body A1 jk (λi E1=>bif Nat.beq i id then jk E1 else kx i E1) kr E
   |A=>exec C pr c n body A.a kn (λi E1=>bif Nat.beq i id then kn E1 else kx i E1) kr E
 | .loop body,A,_,kx,kr,E=>
   match A with
   | .j J A1 _=>bif CP (mD pr body) J then sF E E J λst=>cS (λrec st=>sW E J st (E.del (mD pr body)) λE1=>exec C pr c n body A1 (λE2=>sF E E2 J rec) kx kr E1) n st else fail
   |_=>fail
 | .exit id,_,_,kx,_,E=>kx id E
 | .ret,_,_,_,kr,E=>kr E
 |_,_,_,_,_,_=>fail
def okO (ok:Nat->Bool):List Oper->Bool
 |[]=>true
 |o::r=>(match o.dst with|some d=>ok d|none=>true)&&okO ok r
def yS (ok:Nat->Bool):Code->Bool
 | .region _ ops _=>okO ok ops.toList
 | .seq a b| .cond _ a b=>yS ok a&&yS ok b
 | .block _ b| .loop b| .scope b=>yS ok b
 |_=>true
def sU (n d:Nat):Bool:=Nat.blt d n
structure FA where
 pr:List Nat
 Jh:qB
 dQ:Bool
def vK (C:bC) (E:Env):List ResultVar->(List DV->M β)->M β
 |[],K=>K []
 | .tmp t::r,K=>fA C E (.tmp t) λd=>vK C E r λds=>K (d::ds)
 | .cell a t::r,K=>match E.get a with
  | .loc _ n cs=>rI C.P t (bif jj C.P t then(bif Nat.beq n (C.P.cellsOf t)then vK C E r λds=>K (.agg cs::ds)else fail)else eJ cs 0 λd=>vK C E r λds=>K (d::ds))
  |_=>fail
def kf:Nat->List DV->List (Nat×eQ)
 |_,[]=>[]
 |t,d::r=>(t,.v d)::kf (t+1) r
noncomputable def va (C:bC) (A:FA) (fn:Func) (c:Zf) (n:Nat) (args:List DV):M (List DV):=
 match fn.body with
 |some code=>bif yS (sU fn.ntmps) code&&Nat.ble (fn.params.size+fn.nfree) fn.ntmps then B4 (fn.params.toList.map (nb C.P)++List.replicate fn.nfree (.b .ptr)) args λds=>
   bif A.dQ then gD λb=>
    let kr (E:Env):M (List DV):=vK C E fn.results.toList λds=>bZ b ds
    exec C A.pr c n code A.Jh kr (λ_ _=>fail) kr ⟨0,kf 0 ds⟩
   else
    let kr (E:Env):M (List DV):=vK C E fn.results.toList λds=>ay ds
    exec C A.pr c n code A.Jh kr (λ_ _=>fail) kr ⟨0,kf 0 ds⟩
   else fail
 |none=>fail
abbrev Zh:=Nat->Zf->Nat->List DV->M (List DV)
def run (Bd:Zh):Nat->Zf
 |0,_,_=>fail
 |n+1,g,args=>Bd g (run Bd n) n args
noncomputable def lY (m:M (List DV)) (K:Int->M β):M β:=uZ m λds=>aD .i64 ds λa0 r0=>aL r0<|K a0
noncomputable def Df (m:M (List DV)) (K:List UInt8->M β):M β:=uZ m λds=>eR ds λa0 r0=>aL r0<|K a0
noncomputable def tp (m:M (List DV)) (K:Int->M β):M β:=su m λds=>aD .i64 ds λa0 r0=>aL r0<|K a0
noncomputable def DM (m:M (List DV)) (K:Int->M β):M β:=su m λds=>aD .u64 ds λa0 r0=>aL r0<|K a0
noncomputable def jw (m:M (List DV)) (K:List UInt8->M β):M β:=su m λds=>eR ds λa0 r0=>aL r0<|K a0
noncomputable def C_ (m:M (List DV)) (K:M β):M β:=cQ m λds=>aL ds<|K
noncomputable def zL (m:M (List DV)) (K:Int->Int->Int->Int->Int->Int->Int->Int->Option (Nat×Nat)->Nat->Bool->M β):M β:=cQ m λds=>ba ds λq1 r0=>aD .i64 q1 λa0 r2=>aD .i64 r2 λa1 r3=>aD .i64 r3 λa2 r4=>aD .i64 r4 λa3 r5=>aD .i64 r5 λa4 r6=>aD .i64 r6 λa5 r7=>aD .i64 r7 λa6 r8=>aD .i64 r8 λa7 r9=>bW 1 r9 λa8 a9 mG=>aL mG<|gC r0 λgj rF=>aL rF<|K a0 a1 a2 a3 a4 a5 a6 a7 a8 a9 gj
noncomputable def LQ (m:M (List DV)) (K:Int->Int->Int->Int->Int->Int->Int->Int->Option (Nat×Nat)->Nat->Int->Bool->M β):M β:=cQ m λds=>ba ds λq1 r0=>aD .i64 q1 λa0 r2=>aD .i64 r2 λa1 r3=>aD .i64 r3 λa2 r4=>aD .i64 r4 λa3 r5=>aD .i64 r5 λa4 r6=>aD .i64 r6 λa5 r7=>aD .i64 r7 λa6 r8=>aD .i64 r8 λa7 r9=>bW 1 r9 λa8 a9 mG=>aL mG<|aD .i64 r0 λgj rF=>gC rF λlu K3=>aL K3<|K a0 a1 a2 a3 a4 a5 a6 a7 a8 a9 gj lu
noncomputable def Iq (m:M (List DV)) (K:Int->Int->Int->Int->Int->Int->M β):M β:=cQ m λds=>ba ds λq1 r0=>aD .i64 q1 λa0 r2=>aD .i64 r2 λa1 r3=>aD .i64 r3 λa2 r4=>aD .i64 r4 λa3 r5=>aD .i64 r5 λa4 r6=>aL r6<|aD .i64 r0 λa5 r7=>aL r7<|K a0 a1 a2 a3 a4 a5
noncomputable def Fu (m:M (List DV)) (K:Int->Int->Int->Int->Option (Nat×Nat)->Nat->Bool->M β):M β:=cQ m λds=>ba ds λq1 r0=>aD .i64 q1 λa0 r2=>aD .i64 r2 λa1 r3=>aD .i64 r3 λa2 r4=>aD .i64 r4 λa3 r5=>bW 1 r5 λa4 a5 r6=>aL r6<|gC r0 λa6 r7=>aL r7<|K a0 a1 a2 a3 a4 a5 a6
noncomputable def xC (m:M (List DV)) (K:Int->Int->Int->Option (Nat×Nat)->Nat->Option (Nat×Nat)->Nat->Option (Nat×Nat)->Nat->Option (Nat×Nat)->Int->M β):M β:=cQ m λds=>ba ds λq1 r0=>aD .i64 q1 λa0 r2=>aD .i64 r2 λa1 r3=>aD .i64 r3 λa2 r4=>bW 2 r4 λa3 a4 r5=>bW 1 r5 λa5 a6 r6=>bW 1 r6 λa7 a8 r7=>aL r7<|qS r0 λa9 r8=>aD .i64 r8 λgj r9=>aL r9<|K a0 a1 a2 a3 a4 a5 a6 a7 a8 a9 gj
noncomputable def bq (m:M (List DV)) (K:Bool->M β):M β:=cQ m λds=>gC ds λa0 r0=>aL r0<|K a0
noncomputable def uC (m:M (List DV)) (K:DV->M β):M β:=cQ m λds=>aaI ds λa0 r0=>aL r0<|K a0
noncomputable def cw (m:M (List DV)) (K:Int->M β):M β:=cQ m λds=>aD .i64 ds λa0 r0=>aL r0<|K a0
noncomputable def sm (m:M (List DV)) (K:Int->Int->Option (Nat×Nat)->Nat->Bool->M β):M β:=cQ m λds=>aD .i64 ds λa0 r0=>aD .i64 r0 λa1 r1=>bW 1 r1 λa2 a3 r2=>gC r2 λa4 r3=>aL r3<|K a0 a1 a2 a3 a4
noncomputable def uV (m:M (List DV)) (K:Int->Int->List UInt8->Bool->M β):M β:=cQ m λds=>aD .i64 ds λa0 r0=>aD .i64 r0 λa1 r1=>eR r1 λa2 r2=>gC r2 λa3 r3=>aL r3<|K a0 a1 a2 a3
noncomputable def uS (m:M (List DV)) (K:Int->M β):M β:=cQ m λds=>aD .u32 ds λa0 r0=>aL r0<|K a0
noncomputable def uT (m:M (List DV)) (K:Int->M β):M β:=cQ m λds=>aD .u64 ds λa0 r0=>aL r0<|K a0
noncomputable def iL (m:M (List DV)) (K:Option (Nat×Nat)->Nat->M β):M β:=cQ m λds=>bW 1 ds λa0 a1 r0=>aL r0<|K a0 a1
noncomputable def pL (m:M (List DV)) (K:Option (Nat×Nat)->Nat->Bool->M β):M β:=cQ m λds=>bW 1 ds λa0 a1 r0=>gC r0 λa2 r1=>aL r1<|K a0 a1 a2
noncomputable def FZ (m:M (List DV)) (K:Option (Nat×Nat)->Nat->Option (Nat×Nat)->Nat->Bool->M β):M β:=cQ m λds=>bW 4 ds λa0 a1 r0=>bW 1 r0 λa2 a3 r1=>gC r1 λa4 r2=>aL r2<|K a0 a1 a2 a3 a4
noncomputable def zD (m:M (List DV)) (K:Option (Nat×Nat)->M β):M β:=cQ m λds=>qS ds λa0 r0=>aL r0<|K a0
noncomputable def jf (m:M (List DV)) (K:List UInt8->M β):M β:=cQ m λds=>eR ds λa0 r0=>aL r0<|K a0
noncomputable def uD (m:M (List DV)) (K:List UInt8->Bool->M β):M β:=cQ m λds=>eR ds λa0 r0=>gC r0 λa1 r1=>aL r1<|K a0 a1
noncomputable def xD (st:List DV) (K:Int->Int->Int->Int->Int->Int->Int->Int->Option (Nat×Nat)->Nat->M β):M β:=ba st λq1 r0=>aD .i64 q1 λa0 r2=>aD .i64 r2 λa1 r3=>aD .i64 r3 λa2 r4=>aD .i64 r4 λa3 r5=>aD .i64 r5 λa4 r6=>aD .i64 r6 λa5 r7=>aD .i64 r7 λa6 r8=>aD .i64 r8 λa7 r9=>bW 1 r9 λa8 a9 mG=>aL mG<|aL r0<|K a0 a1 a2 a3 a4 a5 a6 a7 a8 a9
noncomputable def Ziw (st:List DV) (K:Int->Int->Int->Int->Int->Int->Int->Int->Option (Nat×Nat)->Nat->Bool->M β):M β:=ba st λq1 r0=>aD .i64 q1 λa0 r2=>aD .i64 r2 λa1 r3=>aD .i64 r3 λa2 r4=>aD .i64 r4 λa3 r5=>aD .i64 r5 λa4 r6=>aD .i64 r6 λa5 r7=>aD .i64 r7 λa6 r8=>aD .i64 r8 λa7 r9=>bW 1 r9 λa8 a9 mG=>aL mG<|gC r0 λgj rF=>aL rF<|K a0 a1 a2 a3 a4 a5 a6 a7 a8 a9 gj
noncomputable def LR (st:List DV) (K:Int->Int->Int->Int->Int->Int->Int->Int->Option (Nat×Nat)->Nat->Int->M β):M β:=ba st λq1 r0=>aD .i64 q1 λa0 r2=>aD .i64 r2 λa1 r3=>aD .i64 r3 λa2 r4=>aD .i64 r4 λa3 r5=>aD .i64 r5 λa4 r6=>aD .i64 r6 λa5 r7=>aD .i64 r7 λa6 r8=>aD .i64 r8 λa7 r9=>bW 1 r9 λa8 a9 mG=>aL mG<|aD .i64 r0 λgj rF=>aL rF<|K a0 a1 a2 a3 a4 a5 a6 a7 a8 a9 gj
noncomputable def Zhi (st:List DV) (K:Int->Int->Int->Int->Int->Int->Int->Int->Option (Nat×Nat)->Nat->Option (Nat×Nat)->Nat->Int->M β):M β:=ba st λq1 r0=>aD .i64 q1 λa0 r2=>aD .i64 r2 λa1 r3=>aD .i64 r3 λa2 r4=>aD .i64 r4 λa3 r5=>aD .i64 r5 λa4 r6=>aD .i64 r6 λa5 r7=>aD .i64 r7 λa6 r8=>aD .i64 r8 λa7 r9=>bW 1 r9 λa8 a9 mG=>aL mG<|bW 1 r0 λgj lu rF=>aD .i64 rF λa12 K3=>aL K3<|K a0 a1 a2 a3 a4 a5 a6 a7 a8 a9 gj lu a12
noncomputable def Mb (st:List DV) (K:Int->Int->Int->Int->Int->Int->M β):M β:=ba st λq1 r0=>aD .i64 q1 λa0 r2=>aD .i64 r2 λa1 r3=>aD .i64 r3 λa2 r4=>aD .i64 r4 λa3 r5=>aD .i64 r5 λa4 r6=>aL r6<|aD .i64 r0 λa5 r7=>aL r7<|K a0 a1 a2 a3 a4 a5
noncomputable def FK (st:List DV) (K:Int->Int->Int->Int->Option (Nat×Nat)->Nat->M β):M β:=ba st λq1 r0=>aD .i64 q1 λa0 r2=>aD .i64 r2 λa1 r3=>aD .i64 r3 λa2 r4=>aD .i64 r4 λa3 r5=>bW 1 r5 λa4 a5 r6=>aL r6<|aL r0<|K a0 a1 a2 a3 a4 a5
noncomputable def LX (st:List DV) (K:Int->Int->Int->Int->Int->Int->Int->Int->M β):M β:=ba st λq1 r0=>aD .i64 q1 λa0 r2=>aD .i64 r2 λa1 r3=>aD .i64 r3 λa2 r4=>aD .i64 r4 λa3 r5=>aL r5<|ba r0 λq7 r6=>aD .i64 q7 λa4 r8=>aD .i64 r8 λa5 r9=>aD .i64 r9 λa6 mG=>aD .i64 mG λa7 rF=>aL rF<|aL r6<|K a0 a1 a2 a3 a4 a5 a6 a7
noncomputable def DH (st:List DV) (K:Int->Int->Int->M β):M β:=ba st λq1 r0=>aD .i64 q1 λa0 r2=>aD .i64 r2 λa1 r3=>aD .i64 r3 λa2 r4=>aL r4<|aL r0<|K a0 a1 a2
noncomputable def jg (st:List DV) (K:Bool->M β):M β:=gC st λa0 r0=>aL r0<|K a0
noncomputable def qJ (st:List DV) (K:Bool->Int->Int->M β):M β:=gC st λa0 r0=>aD .i64 r0 λa1 r1=>aD .i64 r1 λa2 r2=>aL r2<|K a0 a1 a2
noncomputable def cP (st:List DV) (K:Int->M β):M β:=aD .i64 st λa0 r0=>aL r0<|K a0
noncomputable def Zwx (st:List DV) (K:Int->Bool->Int->M β):M β:=aD .i64 st λa0 r0=>gC r0 λa1 r1=>aD .i64 r1 λa2 r2=>aL r2<|K a0 a1 a2
noncomputable def iX (st:List DV) (K:Int->Int->M β):M β:=aD .i64 st λa0 r0=>aD .i64 r0 λa1 r1=>aL r1<|K a0 a1
noncomputable def Zip (st:List DV) (K:Int->Int->Int->M β):M β:=aD .i64 st λa0 r0=>aD .i64 r0 λa1 r1=>aD .i64 r1 λa2 r2=>aL r2<|K a0 a1 a2
noncomputable def sh (st:List DV) (K:Int->Int->Int->Int->M β):M β:=aD .i64 st λa0 r0=>aD .i64 r0 λa1 r1=>aD .i64 r1 λa2 r2=>aD .i64 r2 λa3 r3=>aL r3<|K a0 a1 a2 a3
noncomputable def Zs3 (st:List DV) (K:Int->Int->Int->Int->Bool->M β):M β:=aD .i64 st λa0 r0=>aD .i64 r0 λa1 r1=>aD .i64 r1 λa2 r2=>aD .i64 r2 λa3 r3=>gC r3 λa4 r4=>aL r4<|K a0 a1 a2 a3 a4
noncomputable def Zty (st:List DV) (K:Int->Int->Int->Int->Int->M β):M β:=aD .i64 st λa0 r0=>aD .i64 r0 λa1 r1=>aD .i64 r1 λa2 r2=>aD .i64 r2 λa3 r3=>aD .i64 r3 λa4 r4=>aL r4<|K a0 a1 a2 a3 a4
noncomputable def Z6 (st:List DV) (K:Int->Int->Int->Int->Int->Int->Int->Int->Option (Nat×Nat)->Nat->M β):M β:=aD .i64 st λa0 r0=>aD .i64 r0 λa1 r1=>aD .i64 r1 λa2 r2=>aD .i64 r2 λa3 r3=>aD .i64 r3 λa4 r4=>aD .i64 r4 λa5 r5=>aD .i64 r5 λa6 r6=>aD .i64 r6 λa7 r7=>bW 1 r7 λa8 a9 r8=>aL r8<|K a0 a1 a2 a3 a4 a5 a6 a7 a8 a9
noncomputable def ZuY (st:List DV) (K:Int->Int->Option (Nat×Nat)->Nat->M β):M β:=aD .i64 st λa0 r0=>aD .i64 r0 λa1 r1=>bW 1 r1 λa2 a3 r2=>aL r2<|K a0 a1 a2 a3
noncomputable def Zx (st:List DV) (K:Int->Int->Option (Nat×Nat)->Nat->Option (Nat×Nat)->Nat->Option (Nat×Nat)->Nat->M β):M β:=aD .i64 st λa0 r0=>aD .i64 r0 λa1 r1=>bW 2 r1 λa2 a3 r2=>bW 1 r2 λa4 a5 r3=>bW 1 r3 λa6 a7 r4=>aL r4<|K a0 a1 a2 a3 a4 a5 a6 a7
noncomputable def BH (st:List DV) (K:Int->Int->M β):M β:=aD .u64 st λa0 r0=>aD .i64 r0 λa1 r1=>aL r1<|K a0 a1
noncomputable def ZuF (st:List DV) (K:Int->Bool->M β):M β:=aD .u8 st λa0 r0=>gC r0 λa1 r1=>aL r1<|K a0 a1
noncomputable def ZqJ (st:List DV) (K:Int->Int->M β):M β:=aD .u8 st λa0 r0=>aD .u8 r0 λa1 r1=>aL r1<|K a0 a1
noncomputable def bV (st:List DV) (K:Option (Nat×Nat)->Nat->M β):M β:=bW 1 st λa0 a1 r0=>aL r0<|K a0 a1
noncomputable def Qs (st:List DV) (K:Option (Nat×Nat)->Nat->Int->Int->Int->Option (Nat×Nat)->Nat->Option (Nat×Nat)->Nat->Option (Nat×Nat)->Nat->Int->M β):M β:=bW 1 st λa0 a1 r0=>ba r0 λq2 r1=>aD .i64 q2 λa2 r3=>aD .i64 r3 λa3 r4=>aD .i64 r4 λa4 r5=>bW 2 r5 λa5 a6 r6=>bW 1 r6 λa7 a8 r7=>bW 1 r7 λa9 gj r8=>aL r8<|aD .i64 r1 λlu r9=>aL r9<|K a0 a1 a2 a3 a4 a5 a6 a7 a8 a9 gj lu
noncomputable def Zhd (st:List DV) (K:Option (Nat×Nat)->Nat->Int->Int->Int->Option (Nat×Nat)->Nat->Option (Nat×Nat)->Nat->Option (Nat×Nat)->Nat->Int->Int->M β):M β:=bW 1 st λa0 a1 r0=>ba r0 λq2 r1=>aD .i64 q2 λa2 r3=>aD .i64 r3 λa3 r4=>aD .i64 r4 λa4 r5=>bW 2 r5 λa5 a6 r6=>bW 1 r6 λa7 a8 r7=>bW 1 r7 λa9 gj r8=>aL r8<|aD .i64 r1 λlu r9=>aD .i64 r9 λa12 mG=>aL mG<|K a0 a1 a2 a3 a4 a5 a6 a7 a8 a9 gj lu a12
noncomputable def I4 (st:List DV) (K:Option (Nat×Nat)->Nat->Bool->M β):M β:=bW 1 st λa0 a1 r0=>gC r0 λa2 r1=>aL r1<|K a0 a1 a2
noncomputable def oe (st:List DV) (K:Option (Nat×Nat)->Nat->Int->M β):M β:=bW 1 st λa0 a1 r0=>aD .i64 r0 λa2 r1=>aL r1<|K a0 a1 a2
noncomputable def xS (st:List DV) (K:Option (Nat×Nat)->Nat->Int->Int->M β):M β:=bW 1 st λa0 a1 r0=>aD .i64 r0 λa2 r1=>aD .i64 r1 λa3 r2=>aL r2<|K a0 a1 a2 a3
noncomputable def LH (st:List DV) (K:Nat->M β):M β:=aaJ st λa0 r0=>aL r0<|K a0
noncomputable def jh (st:List DV) (K:Option (Nat×Nat)->M β):M β:=qS st λa0 r0=>aL r0<|K a0
noncomputable def pP (st:List DV) (K:Option (Nat×Nat)->Int->M β):M β:=qS st λa0 r0=>aD .i64 r0 λa1 r1=>aL r1<|K a0 a1
noncomputable def F5 (st:List DV) (K:Option (Nat×Nat)->Int->Int->M β):M β:=qS st λa0 r0=>aD .i64 r0 λa1 r1=>aD .i64 r1 λa2 r2=>aL r2<|K a0 a1 a2
noncomputable def jK (st:List DV) (K:List UInt8->M β):M β:=eR st λa0 r0=>aL r0<|K a0
noncomputable def LS (st:List DV) (K:List UInt8->Int->Int->Int->Int->Int->Int->Int->Int->Option (Nat×Nat)->Nat->M β):M β:=eR st λa0 r0=>ba r0 λq2 r1=>aD .i64 q2 λa1 r3=>aD .i64 r3 λa2 r4=>aD .i64 r4 λa3 r5=>aD .i64 r5 λa4 r6=>aD .i64 r6 λa5 r7=>aD .i64 r7 λa6 r8=>aD .i64 r8 λa7 r9=>aD .i64 r9 λa8 mG=>bW 1 mG λa9 gj rF=>aL rF<|aL r1<|K a0 a1 a2 a3 a4 a5 a6 a7 a8 a9 gj
noncomputable def nU (st:List DV) (K:List UInt8->Int->M β):M β:=eR st λa0 r0=>aD .i64 r0 λa1 r1=>aL r1<|K a0 a1
def ZI (a0:Bool) (a1:Int) (a2:Int) (a3:Bool) (a4:Int) (a5:Int) (a6:Bool) (a7:Int) (a8:Int) (a9:Bool) (gj:Int) (lu:Int) (a12:Bool) (Ag:Int) (DZ:Int) (Jb:Bool) (Jc:Int) (a17:Int) (Jd:Bool) (Je:Int) (a20:Int) (a21:Bool):List DV:=[.agg [.bool a0,.int .i64 a1,.int .i64 a2,.bool a3,.int .i64 a4,.int .i64 a5,.bool a6,.int .i64 a7,.int .i64 a8,.bool a9,.int .i64 gj,.int .i64 lu,.bool a12,.int .i64 Ag,.int .i64 DZ,.bool Jb,.int .i64 Jc,.int .i64 a17,.bool Jd,.int .i64 Je,.int .i64 a20],.bool a21]
def vZ (a0:Int) (a1:Int) (a2:Int) (a3:Int) (a4:Int) (a5:Int) (a6:Int) (a7:Int) (a8:Option (Nat×Nat)) (a9:Nat) (gj:Bool):List DV:=[.agg [.int .i64 a0,.int .i64 a1,.int .i64 a2,.int .i64 a3,.int .i64 a4,.int .i64 a5,.int .i64 a6,.int .i64 a7,.slice 0 a8 a9],.bool gj]
def ZX (a0:Int) (a1:Int) (a2:Int) (a3:Int) (a4:Int) (a5:Int) (a6:Int) (a7:Int) (a8:Option (Nat×Nat)) (a9:Nat):List DV:=[.agg [.int .i64 a0,.int .i64 a1,.int .i64 a2,.int .i64 a3,.int .i64 a4,.int .i64 a5,.int .i64 a6,.int .i64 a7,.slice 1 a8 a9]]
def Br (a0:Int) (a1:Int) (a2:Int) (a3:Int) (a4:Int) (a5:Int) (a6:Int) (a7:Int) (a8:Option (Nat×Nat)) (a9:Nat) (gj:Bool):List DV:=[.agg [.int .i64 a0,.int .i64 a1,.int .i64 a2,.int .i64 a3,.int .i64 a4,.int .i64 a5,.int .i64 a6,.int .i64 a7,.slice 1 a8 a9],.bool gj]
def HY (a0:Int) (a1:Int) (a2:Int) (a3:Int) (a4:Int) (a5:Int) (a6:Int) (a7:Int) (a8:Option (Nat×Nat)) (a9:Nat) (gj:Int):List DV:=[.agg [.int .i64 a0,.int .i64 a1,.int .i64 a2,.int .i64 a3,.int .i64 a4,.int .i64 a5,.int .i64 a6,.int .i64 a7,.slice 1 a8 a9],.int .i64 gj]
def Bq (a0:Int) (a1:Int) (a2:Int) (a3:Int) (a4:Int) (a5:Int) (a6:Int) (a7:Int) (a8:Option (Nat×Nat)) (a9:Nat) (gj:Int) (lu:Bool):List DV:=[.agg [.int .i64 a0,.int .i64 a1,.int .i64 a2,.int .i64 a3,.int .i64 a4,.int .i64 a5,.int .i64 a6,.int .i64 a7,.slice 1 a8 a9],.int .i64 gj,.bool lu]
def xM (a0:Int) (a1:Int) (a2:Int) (a3:Int) (a4:Int):List DV:=[.agg [.int .i64 a0,.int .i64 a1,.int .i64 a2,.int .i64 a3,.int .i64 a4]]
def BA (a0:Int) (a1:Int) (a2:Int) (a3:Int) (a4:Int) (a5:Int):List DV:=[.agg [.int .i64 a0,.int .i64 a1,.int .i64 a2,.int .i64 a3,.int .i64 a4],.int .i64 a5]
def Bv (a0:Int) (a1:Int) (a2:Int) (a3:Int) (a4:Option (Nat×Nat)) (a5:Nat) (a6:Bool):List DV:=[.agg [.int .i64 a0,.int .i64 a1,.int .i64 a2,.int .i64 a3,.slice 0 a4 a5],.bool a6]
def FB (a0:Int) (a1:Int) (a2:Int) (a3:Int) (a4:Option (Nat×Nat)) (a5:Nat) (a6:Int):List DV:=[.agg [.int .i64 a0,.int .i64 a1,.int .i64 a2,.int .i64 a3,.slice 0 a4 a5],.int .i64 a6]
def xG (a0:Int) (a1:Int) (a2:Int) (a3:Int) (a4:Option (Nat×Nat)) (a5:Nat):List DV:=[.agg [.int .i64 a0,.int .i64 a1,.int .i64 a2,.int .i64 a3,.slice 1 a4 a5]]
def Fv (a0:Int) (a1:Int) (a2:Int) (a3:Int) (a4:Option (Nat×Nat)) (a5:Nat) (a6:Bool):List DV:=[.agg [.int .i64 a0,.int .i64 a1,.int .i64 a2,.int .i64 a3,.slice 1 a4 a5],.bool a6]
def FJ (a0:Int) (a1:Int) (a2:Int) (a3:Int) (a4:Option (Nat×Nat)) (a5:Nat) (a6:Int):List DV:=[.agg [.int .i64 a0,.int .i64 a1,.int .i64 a2,.int .i64 a3,.slice 1 a4 a5],.int .i64 a6]
def Bx (a0:Int) (a1:Int) (a2:Int) (a3:Int) (a4:Int) (a5:Int) (a6:Int) (a7:Int):List DV:=[.agg [.int .i64 a0,.int .i64 a1,.int .i64 a2,.int .i64 a3],.agg [.int .i64 a4,.int .i64 a5,.int .i64 a6,.int .i64 a7]]
def LP (a0:Int) (a1:Int) (a2:Int) (a3:Option (Nat×Nat)) (a4:Nat) (a5:Option (Nat×Nat)) (a6:Nat) (a7:Option (Nat×Nat)) (a8:Nat) (a9:Int) (gj:Int) (lu:Int) (a12:Int) (Ag:Int) (DZ:Int) (Jb:Int) (Jc:Int) (a17:Option (Nat×Nat)) (Jd:Nat) (Je:Option (Nat×Nat)) (a20:Nat) (a21:Int):List DV:=[.agg [.int .i64 a0,.int .i64 a1,.int .i64 a2,.slice 0 a3 a4,.slice 0 a5 a6,.slice 0 a7 a8],.agg [.int .i64 a9,.int .i64 gj,.int .i64 lu,.int .i64 a12,.int .i64 Ag,.int .i64 DZ,.int .i64 Jb,.int .i64 Jc,.slice 1 a17 Jd],.slice 0 Je a20,.int .i64 a21]
def Bt (a0:Int) (a1:Int) (a2:Int) (a3:Option (Nat×Nat)) (a4:Nat) (a5:Option (Nat×Nat)) (a6:Nat) (a7:Option (Nat×Nat)) (a8:Nat) (a9:Option (Nat×Nat)) (gj:Nat) (lu:Bool):List DV:=[.agg [.int .i64 a0,.int .i64 a1,.int .i64 a2,.slice 0 a3 a4,.slice 0 a5 a6,.slice 0 a7 a8],.slice 0 a9 gj,.bool lu]
def Bs (a0:Int) (a1:Int) (a2:Int) (a3:Option (Nat×Nat)) (a4:Nat) (a5:Option (Nat×Nat)) (a6:Nat) (a7:Option (Nat×Nat)) (a8:Nat):List DV:=[.agg [.int .i64 a0,.int .i64 a1,.int .i64 a2,.slice 2 a3 a4,.slice 1 a5 a6,.slice 1 a7 a8]]
def Bp (a0:Int) (a1:Int) (a2:Int) (a3:Option (Nat×Nat)) (a4:Nat) (a5:Option (Nat×Nat)) (a6:Nat) (a7:Option (Nat×Nat)) (a8:Nat) (a9:Int):List DV:=[.agg [.int .i64 a0,.int .i64 a1,.int .i64 a2,.slice 2 a3 a4,.slice 1 a5 a6,.slice 1 a7 a8],.int .i64 a9]
def uR (a0:Int) (a1:Int) (a2:Int):List DV:=[.agg [.int .i64 a0,.int .i64 a1,.int .i64 a2]]
def Fq (a0:List UInt8) (a1:Int) (a2:Int) (a3:Int) (a4:Int) (a5:Int) (a6:Int) (a7:Int) (a8:Int) (a9:Int) (gj:Int) (lu:Int) (a12:Int) (Ag:Int) (DZ:Bool):List DV:=[.agg [.str a0,.int .i64 a1,.int .i64 a2,.int .i64 a3,.int .i64 a4,.int .i64 a5,.int .i64 a6,.int .i64 a7,.int .i64 a8,.int .i64 a9,.int .i64 gj,.int .i64 lu,.int .i64 a12,.int .i64 Ag],.bool DZ]
def Lb (a0:Bool):List DV:=[.bool a0]
def zH (a0:Bool) (a1:Int):List DV:=[.bool a0,.int .i64 a1]
def rX (a0:Bool) (a1:Int) (a2:Int):List DV:=[.bool a0,.int .i64 a1,.int .i64 a2]
def Ds (a0:Bool) (a1:Int) (a2:Int) (a3:Bool) (a4:Int) (a5:Int) (a6:Bool) (a7:Int) (a8:Int) (a9:Bool) (gj:Int) (lu:Int) (a12:Bool) (Ag:Int) (DZ:Int) (Jb:Bool) (Jc:Int) (a17:Int) (Jd:Bool) (Je:Int) (a20:Int):List DV:=[.bool a0,.int .i64 a1,.int .i64 a2,.bool a3,.int .i64 a4,.int .i64 a5,.bool a6,.int .i64 a7,.int .i64 a8,.bool a9,.int .i64 gj,.int .i64 lu,.bool a12,.int .i64 Ag,.int .i64 DZ,.bool Jb,.int .i64 Jc,.int .i64 a17,.bool Jd,.int .i64 Je,.int .i64 a20]
def Li (a0:Int):List DV:=[.int .i64 a0]
def gJ (a0:Int) (a1:Int):List DV:=[.int .i64 a0,.int .i64 a1]
def Di (a0:Int):List DV:=[.int .i32 a0]
def zI (a0:Int) (a1:Int) (a2:Int):List DV:=[.int .i64 a0,.int .i64 a1,.int .i64 a2]
def pQ (a0:Int) (a1:Int) (a2:List UInt8):List DV:=[.int .i64 a0,.int .i64 a1,.str a2]
def uF (a0:Int) (a1:Option (Nat×Nat)) (a2:Nat):List DV:=[.int .i64 a0,.slice 1 a1 a2]
def lf (a0:Int):List DV:=[.int .u32 a0]
def pV (a0:Int) (a1:Int):List DV:=[.int .u32 a0,.int .i64 a1]
def lg (a0:Int):List DV:=[.int .u64 a0]
def ZC (a0:Int) (a1:Int):List DV:=[.int .u64 a0,.int .i64 a1]
def lH (a0:Int):List DV:=[.int .u8 a0]
def uG (a0:Option (Nat×Nat)) (a1:Nat) (a2:Bool):List DV:=[.slice 0 a0 a1,.bool a2]
def iw (a0:Option (Nat×Nat)) (a1:Nat) (a2:Int):List DV:=[.slice 0 a0 a1,.int .i64 a2]
def sq (a0:Option (Nat×Nat)) (a1:Nat) (a2:Option (Nat×Nat)) (a3:Nat) (a4:Bool):List DV:=[.slice 0 a0 a1,.slice 0 a2 a3,.bool a4]
def aZ (a0:Option (Nat×Nat)) (a1:Nat):List DV:=[.slice 1 a0 a1]
def dY (a0:Option (Nat×Nat)) (a1:Nat) (a2:Int):List DV:=[.slice 1 a0 a1,.int .i64 a2]
def Z7 (a0:Option (Nat×Nat)) (a1:Nat) (a2:Int) (a3:Int):List DV:=[.slice 1 a0 a1,.int .i64 a2,.int .i64 a3]
def wh (a0:Option (Nat×Nat)) (a1:Nat) (a2:Option (Nat×Nat)) (a3:Nat):List DV:=[.slice 1 a0 a1,.slice 1 a2 a3]
def rY (a0:Option (Nat×Nat)) (a1:Nat):List DV:=[.slice 4 a0 a1]
def Lp (a0:Option (Nat×Nat)):List DV:=[.ptr a0]
def ix (a0:Option (Nat×Nat)) (a1:Int):List DV:=[.ptr a0,.int .i64 a1]
def vV (a0:Option (Nat×Nat)) (a1:List UInt8):List DV:=[.ptr a0,.str a1]
def Ls (a0:List UInt8):List DV:=[.str a0]
def vW (a0:List UInt8) (a1:Bool):List DV:=[.str a0,.bool a1]
def eI (a0:List UInt8) (a1:Int):List DV:=[.str a0,.int .i64 a1]
def zJ (a0:List UInt8) (a1:Int) (a2:Int):List DV:=[.str a0,.int .i64 a1,.int .i64 a2]
def Ft (a0:List UInt8) (a1:Int) (a2:Int) (a3:Int) (a4:Int) (a5:Int) (a6:Int) (a7:Int) (a8:Int) (a9:Int) (gj:Int) (lu:Int) (a12:Int) (Ag:Int):List DV:=[.str a0,.int .i64 a1,.int .i64 a2,.int .i64 a3,.int .i64 a4,.int .i64 a5,.int .i64 a6,.int .i64 a7,.int .i64 a8,.int .i64 a9,.int .i64 gj,.int .i64 lu,.int .i64 a12,.int .i64 Ag]
def Dz (a0:List UInt8) (a1:Int) (a2:Int) (a3:Int):List DV:=[.str a0,.int .i64 a1,.int .u8 a2,.int .u8 a3]
noncomputable def N_ (p:Option (Nat×Nat)) (x:Int) (l:Nat) (K:Nat->Nat->M β):M β:=bH p λi o=>aC (aR x l)<|K i o
noncomputable def Q_ (f:M β) (g:(List DV->M β)->M β):M β:=cK (λst=>aL st<|f) g
noncomputable def HW (f:Int->Int->Int->Int->Int->Int->Int->Int->Option (Nat×Nat)->Nat->M β) (g:(List DV->M β)->M β):M β:=cK (λst=>ba st λq1 r0=>aD .i64 q1 λa0 r2=>aD .i64 r2 λa1 r3=>aD .i64 r3 λa2 r4=>aD .i64 r4 λa3 r5=>aD .i64 r5 λa4 r6=>aD .i64 r6 λa5 r7=>aD .i64 r7 λa6 r8=>aD .i64 r8 λa7 r9=>bW 1 r9 λa8 a9 mG=>aL mG<|aL r0<|f a0 a1 a2 a3 a4 a5 a6 a7 a8 a9) g
noncomputable def QV (f:Int->Int->Int->Int->Int->Int->Int->Int->Option (Nat×Nat)->Nat->Int->Bool->M β) (g:(List DV->M β)->M β):M β:=cK (λst=>ba st λq1 r0=>aD .i64 q1 λa0 r2=>aD .i64 r2 λa1 r3=>aD .i64 r3 λa2 r4=>aD .i64 r4 λa3 r5=>aD .i64 r5 λa4 r6=>aD .i64 r6 λa5 r7=>aD .i64 r7 λa6 r8=>aD .i64 r8 λa7 r9=>bW 1 r9 λa8 a9 mG=>aL mG<|aD .i64 r0 λgj rF=>gC rF λlu K3=>aL K3<|f a0 a1 a2 a3 a4 a5 a6 a7 a8 a9 gj lu) g
noncomputable def DB (f:Int->Int->Int->Int->Int->M β) (g:(List DV->M β)->M β):M β:=cK (λst=>ba st λq1 r0=>aD .i64 q1 λa0 r2=>aD .i64 r2 λa1 r3=>aD .i64 r3 λa2 r4=>aD .i64 r4 λa3 r5=>aD .i64 r5 λa4 r6=>aL r6<|aL r0<|f a0 a1 a2 a3 a4) g
noncomputable def FI (f:Int->Int->Int->Int->Option (Nat×Nat)->Nat->M β) (g:(List DV->M β)->M β):M β:=cK (λst=>ba st λq1 r0=>aD .i64 q1 λa0 r2=>aD .i64 r2 λa1 r3=>aD .i64 r3 λa2 r4=>aD .i64 r4 λa3 r5=>bW 1 r5 λa4 a5 r6=>aL r6<|aL r0<|f a0 a1 a2 a3 a4 a5) g
noncomputable def aA (f:Bool->M β) (g:(List DV->M β)->M β):M β:=cK (λst=>gC st λa0 r0=>aL r0<|f a0) g
noncomputable def oL (f:Int->M β) (g:(List DV->M β)->M β):M β:=cK (λst=>aD .i64 st λa0 r0=>aL r0<|f a0) g
noncomputable def xU (f:Int->M β) (g:(List DV->M β)->M β):M β:=cK (λst=>aD .u32 st λa0 r0=>aL r0<|f a0) g
noncomputable def BU (f:Int->M β) (g:(List DV->M β)->M β):M β:=cK (λst=>aD .u64 st λa0 r0=>aL r0<|f a0) g
noncomputable def HO (f:Int->M β) (g:(List DV->M β)->M β):M β:=cK (λst=>aD .u8 st λa0 r0=>aL r0<|f a0) g
noncomputable def fB (f:Option (Nat×Nat)->Nat->M β) (g:(List DV->M β)->M β):M β:=cK (λst=>bW 1 st λa0 a1 r0=>aL r0<|f a0 a1) g
noncomputable def Dl (f:Option (Nat×Nat)->Nat->M β) (g:(List DV->M β)->M β):M β:=cK (λst=>bW 4 st λa0 a1 r0=>aL r0<|f a0 a1) g
noncomputable def tt (f:List UInt8->M β) (g:(List DV->M β)->M β):M β:=cK (λst=>eR st λa0 r0=>aL r0<|f a0) g
noncomputable def Fy (f:(List DV->M β)->Int->Int->Int->Int->Option (Nat×Nat)->Nat->Int->M β) (n:Nat) (l:List DV):M β:=cS (λrec st=>ba st λq1 r0=>aD .i64 q1 λa0 r2=>aD .i64 r2 λa1 r3=>aD .i64 r3 λa2 r4=>aD .i64 r4 λa3 r5=>bW 1 r5 λa4 a5 r6=>aL r6<|aD .i64 r0 λa6 r7=>aL r7<|f rec a0 a1 a2 a3 a4 a5 a6) n l
noncomputable def cN (f:(List DV->M β)->Int->M β) (n:Nat) (l:List DV):M β:=cS (λrec st=>aD .i64 st λa0 r0=>aL r0<|f rec a0) n l
noncomputable def xI (f:(List DV->M β)->Int->Int->M β) (n:Nat) (l:List DV):M β:=cS (λrec st=>aD .u32 st λa0 r0=>aD .i64 r0 λa1 r1=>aL r1<|f rec a0 a1) n l
noncomputable def zS (f:(List DV->M β)->Int->Int->M β) (n:Nat) (l:List DV):M β:=cS (λrec st=>aD .u64 st λa0 r0=>aD .i64 r0 λa1 r1=>aL r1<|f rec a0 a1) n l
noncomputable def kd (f:(List DV->M β)->Option (Nat×Nat)->Nat->Int->M β) (n:Nat) (l:List DV):M β:=cS (λrec st=>bW 1 st λa0 a1 r0=>aD .i64 r0 λa2 r1=>aL r1<|f rec a0 a1 a2) n l
noncomputable def uK (f:(List DV->M β)->List UInt8->Int->M β) (n:Nat) (l:List DV):M β:=cS (λrec st=>eR st λa0 r0=>aD .i64 r0 λa1 r1=>aL r1<|f rec a0 a1) n l
noncomputable def Zn (s:Nat) (p:Option (Nat×Nat)) (x:Int) (l:Nat) (K:Int->M β):M β:=bH p λi o=>aC (aR x l)<|bD i (x.toNat*s+o) λd=>cY .i64 d λv=>K v
noncomputable def wb (s:Nat) (p:Option (Nat×Nat)) (x:Int) (l:Nat) (K:Int->M β):M β:=bH p λi o=>aC (aR x l)<|bD i (x.toNat*s+o) λd=>cY .u64 d λv=>K v
noncomputable def xy (s:Nat) (p:Option (Nat×Nat)) (x:Int) (l:Nat) (K:List UInt8->M β):M β:=bH p λi o=>aC (aR x l)<|bD i (x.toNat*s+o) λd=>BW d λv=>K v
noncomputable def qK (i p:Nat) (K:Bool->M β):M β:=bD i p λd=>tM d λv=>K v
noncomputable def Zm (i p:Nat) (K:Int->M β):M β:=bD i p λd=>cY .i64 d λv=>K v
noncomputable def mS (i p:Nat) (K:Int->M β):M β:=bD i p λd=>cY .u8 d λv=>K v
abbrev ah:=List DV
abbrev ai:=Option (Nat×Nat)
abbrev aj:=List UInt8
abbrev ak:=List Int
abbrev al:=List Nat
abbrev ao:=Zf->Nat->ah->M ah
end Go.Gv
