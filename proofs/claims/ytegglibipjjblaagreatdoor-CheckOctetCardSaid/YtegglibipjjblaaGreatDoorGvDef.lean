/- A deterministic heap machine beside the model: its values, its heap, what it makes of a function's code. -/
import Derived.Orders
import Derived.KernelRfl
set_option linter.all false
theorem aJ:type_of% @Nat.le_refl:=@Nat.le_refl
theorem aQ:type_of% @decide_eq_true:=@decide_eq_true
theorem aS:type_of% @Bool.and_eq_true:=@Bool.and_eq_true
theorem aY:type_of% @if_neg:=@if_neg
theorem ba:type_of% @List.length_append:=@List.length_append
theorem bn:type_of% @Int.toNat_natCast:=@Int.toNat_natCast
theorem bq:type_of% @decide_eq_true_iff:=@decide_eq_true_iff
theorem bx:type_of% @if_pos:=@if_pos
theorem bD:type_of% @Bool.not_false:=@Bool.not_false
theorem bI:type_of% @Bool.not_true:=@Bool.not_true
theorem bP:type_of% @decide_eq_false:=@decide_eq_false
theorem cc:type_of% @List.getElem?_eq_getElem:=@List.getElem?_eq_getElem
theorem cz:type_of% @List.getD_eq_getElem?_getD:=@List.getD_eq_getElem?_getD
theorem cB:type_of% @List.length_take:=@List.length_take
theorem cH:type_of% @List.mem_singleton:=@List.mem_singleton
theorem cN:type_of% @Nat.zero_le:=@Nat.zero_le
theorem cQ:type_of% @List.length_cons:=@List.length_cons
theorem cR:type_of% @Nat.mul_one:=@Nat.mul_one
theorem dt:type_of% @Bool.true_and:=@Bool.true_and
theorem dF:type_of% @List.drop_zero:=@List.drop_zero
theorem dG:type_of% @List.take_of_length_le:=@List.take_of_length_le
theorem dL:type_of% @List.append_assoc:=@List.append_assoc
theorem dM:type_of% @beq_eq_false_iff_ne:=@beq_eq_false_iff_ne
theorem dQ:type_of% @Nat.eq_of_beq_eq_true:=@Nat.eq_of_beq_eq_true
theorem dY:type_of% @List.length_drop:=@List.length_drop
theorem ep:type_of% @List.mem_cons:=@List.mem_cons
theorem eE:type_of% @List.getElem?_eq_some_iff:=@List.getElem?_eq_some_iff
theorem eV:type_of% @List.map_append:=@List.map_append
theorem fq:type_of% @Nat.zero_add:=@Nat.zero_add
theorem fE:type_of% @Nat.add_zero:=@Nat.add_zero
theorem fP:type_of% @List.append_nil:=@List.append_nil
theorem ga:type_of% @List.mem_append:=@List.mem_append
theorem gf:type_of% @Option.some.injEq:=@Option.some.injEq
theorem gF:type_of% @Bool.false_and:=@Bool.false_and
theorem gO:type_of% @Nat.ble_eq_true_of_le:=@Nat.ble_eq_true_of_le
theorem gR:type_of% @List.nil_append:=@List.nil_append
theorem ig:type_of% @List.getElem?_set_ne:=@List.getElem?_set_ne
theorem ij:type_of% @Nat.le_trans:=@Nat.le_trans
theorem iR:type_of% @List.drop_eq_getElem_cons:=@List.drop_eq_getElem_cons
theorem iS:type_of% @List.length_singleton:=@List.length_singleton
theorem jj:type_of% @List.getElem_mem:=@List.getElem_mem
theorem jw:type_of% @Nat.lt_or_ge:=@Nat.lt_or_ge
theorem jK:type_of% @List.mem_map:=@List.mem_map
theorem jU:type_of% @List.nodup_append:=@List.nodup_append
theorem kd:type_of% @List.drop_drop:=@List.drop_drop
theorem ke:type_of% @List.getElem?_set_self:=@List.getElem?_set_self
theorem kf:type_of% @List.map_cons:=@List.map_cons
theorem kN:type_of% @Bool.not_eq_true':=@Bool.not_eq_true'
theorem kO:type_of% @List.getElem?_append_right:=@List.getElem?_append_right
theorem lx:type_of% @List.drop_eq_nil_of_le:=@List.drop_eq_nil_of_le
theorem ly:type_of% @List.getElem?_cons_zero:=@List.getElem?_cons_zero
theorem lz:type_of% @List.length_set:=@List.length_set
theorem lU:type_of% @Array.getElem?_toList:=@Array.getElem?_toList
theorem mB:type_of% @Bool.or_eq_true:=@Bool.or_eq_true
theorem mC:type_of% @List.length_map:=@List.length_map
theorem mD:type_of% @List.take_append_drop:=@List.take_append_drop
theorem mE:type_of% @Nat.lt_of_lt_of_le:=@Nat.lt_of_lt_of_le
theorem nc:type_of% @List.getElem?_append_left:=@List.getElem?_append_left
theorem nf:type_of% @List.getElem?_map:=@List.getElem?_map
theorem ng:type_of% @of_decide_eq_true:=@of_decide_eq_true
theorem nL:type_of% @Bool.eq_iff_iff:=@Bool.eq_iff_iff
theorem nM:type_of% @if_true:=@if_true
theorem oo:type_of% @List.cons_append:=@List.cons_append
theorem oq:type_of% @List.take_succ_eq_append_getElem:=@List.take_succ_eq_append_getElem
theorem ot:type_of% @if_false:=@if_false
theorem pw:type_of% @List.length_replicate:=@List.length_replicate
theorem pz:type_of% @List.mem_cons_self:=@List.mem_cons_self
theorem pA:type_of% @Nat.min_eq_left:=@Nat.min_eq_left
theorem pB:type_of% @Nat.pow_le_pow_right:=@Nat.pow_le_pow_right
theorem pC:type_of% @Option.map_some:=@Option.map_some
theorem pD:type_of% @or_false:=@or_false
theorem qb:type_of% @Array.length_toList:=@Array.length_toList
theorem qc:type_of% @List.mem_of_getElem?:=@List.mem_of_getElem?
theorem qP:type_of% @List.all_eq_true:=@List.all_eq_true
theorem qQ:type_of% @List.nodup_cons:=@List.nodup_cons
theorem rO:type_of% @List.getElem?_cons_succ:=@List.getElem?_cons_succ
theorem rQ:type_of% @List.take_length:=@List.take_length
theorem rR:type_of% @Nat.blt_eq:=@Nat.blt_eq
theorem rS:type_of% @Nat.le_of_ble_eq_true:=@Nat.le_of_ble_eq_true
theorem rU:type_of% @Nat.zero_mul:=@Nat.zero_mul
theorem tg:type_of% @Array.getD_eq_getD_getElem?:=@Array.getD_eq_getD_getElem?
theorem th:type_of% @List.ext_getElem?:=@List.ext_getElem?
theorem tj:type_of% @List.mem_cons_of_mem:=@List.mem_cons_of_mem
theorem tk:type_of% @List.not_mem_nil:=@List.not_mem_nil
theorem tl:type_of% @List.range_succ:=@List.range_succ
theorem tm:type_of% @Nat.add_comm:=@Nat.add_comm
theorem tn:type_of% @Nat.pow_succ:=@Nat.pow_succ
theorem tp:type_of% @decide_eq_false_iff_not:=@decide_eq_false_iff_not
theorem uC:type_of% @List.all_append:=@List.all_append
theorem uD:type_of% @List.drop_left:=@List.drop_left
theorem uE:type_of% @List.getElem?_take:=@List.getElem?_take
theorem uF:type_of% @List.map_map:=@List.map_map
theorem uG:type_of% @List.mem_range:=@List.mem_range
theorem uH:type_of% @List.take_add:=@List.take_add
theorem vG:type_of% @Bool.false_eq_true:=@Bool.false_eq_true
theorem vH:type_of% @List.flatten_cons:=@List.flatten_cons
theorem vI:type_of% @Nat.add_assoc:=@Nat.add_assoc
theorem wX:type_of% @Bool.false_or:=@Bool.false_or
theorem wY:type_of% @List.all_cons:=@List.all_cons
theorem wZ:type_of% @List.foldl_append:=@List.foldl_append
theorem w4:type_of% @List.getElem?_drop:=@List.getElem?_drop
theorem w8:type_of% @Nat.add_mul:=@Nat.add_mul
theorem w9:type_of% @Nat.sub_zero:=@Nat.sub_zero
theorem yf:type_of% @Bool.or_eq_false_iff:=@Bool.or_eq_false_iff
theorem yg:type_of% @Nat.sub_self:=@Nat.sub_self
theorem yh:type_of% @Nat.succ_pos:=@Nat.succ_pos
theorem yi:type_of% @decide_eq_true_eq:=@decide_eq_true_eq
theorem zZ:type_of% @List.foldl_cons:=@List.foldl_cons
theorem z8:type_of% @List.length_eq_zero_iff:=@List.length_eq_zero_iff
theorem Aa:type_of% @List.length_nil:=@List.length_nil
theorem Ab:type_of% @Nat.two_pow_pos:=@Nat.two_pow_pos
theorem Ac:type_of% @beq_iff_eq:=@beq_iff_eq
theorem Ad:type_of% @beq_self_eq_true:=@beq_self_eq_true
theorem Bz:type_of% @Bool.and_false:=@Bool.and_false
theorem BA:type_of% @Bool.and_true:=@Bool.and_true
theorem BB:type_of% @List.drop_of_length_le:=@List.drop_of_length_le
theorem BC:type_of% @List.drop_take:=@List.drop_take
theorem BD:type_of% @List.eq_nil_of_length_eq_zero:=@List.eq_nil_of_length_eq_zero
theorem BE:type_of% @List.getElem_of_mem:=@List.getElem_of_mem
theorem BF:type_of% @Nat.eq_zero_or_pos:=@Nat.eq_zero_or_pos
theorem BG:type_of% @Nat.mul_comm:=@Nat.mul_comm
theorem BH:type_of% @Nat.not_lt:=@Nat.not_lt
theorem Dx:type_of% @List.getElem?_eq_none:=@List.getElem?_eq_none
theorem Dy:type_of% @List.mem_append_left:=@List.mem_append_left
theorem Dz:type_of% @List.mem_iff_getElem?:=@List.mem_iff_getElem?
theorem DA:type_of% @List.take_left:=@List.take_left
theorem DB:type_of% @Option.some.inj:=@Option.some.inj
theorem DC:type_of% @UInt8.toNat_inj:=@UInt8.toNat_inj
theorem DD:type_of% @of_decide_eq_false:=@of_decide_eq_false
theorem Fu:type_of% @List.flatten_append:=@List.flatten_append
theorem Fv:type_of% @List.getElem?_of_mem:=@List.getElem?_of_mem
theorem Fw:type_of% @List.getElem?_range:=@List.getElem?_range
theorem Fy:type_of% @List.getElem?_replicate:=@List.getElem?_replicate
theorem FB:type_of% @List.map_congr_left:=@List.map_congr_left
theorem FC:type_of% @List.mem_append_right:=@List.mem_append_right
theorem FD:type_of% @List.mem_filter:=@List.mem_filter
theorem FE:type_of% @List.pairwise_cons:=@List.pairwise_cons
theorem FF:type_of% @List.pairwise_map:=@List.pairwise_map
theorem FG:type_of% @Nat.beq_refl:=@Nat.beq_refl
theorem FH:type_of% @Nat.div_le_self:=@Nat.div_le_self
theorem FI:type_of% @Nat.mul_le_mul_right:=@Nat.mul_le_mul_right
theorem FJ:type_of% @Nat.succ_mul:=@Nat.succ_mul
theorem FK:type_of% @Nat.testBit_lt_two_pow:=@Nat.testBit_lt_two_pow
theorem FL:type_of% @Nat.xor_lt_two_pow:=@Nat.xor_lt_two_pow
theorem FM:type_of% @Prod.mk.injEq:=@Prod.mk.injEq
theorem HW:type_of% @Bool.cond_false_right:=@Bool.cond_false_right
theorem HX:type_of% @List.cons.inj:=@List.cons.inj
theorem HY:type_of% @List.filter_append:=@List.filter_append
theorem HZ:type_of% @List.pairwise_iff_getElem:=@List.pairwise_iff_getElem
theorem H0:type_of% @List.range'_succ:=@List.range'_succ
theorem H2:type_of% @List.take_take:=@List.take_take
theorem H3:type_of% @Nat.div_div_eq_div_mul:=@Nat.div_div_eq_div_mul
theorem H4:type_of% @Nat.eq_of_testBit_eq:=@Nat.eq_of_testBit_eq
theorem H5:type_of% @Nat.lt_of_le_of_lt:=@Nat.lt_of_le_of_lt
theorem H6:type_of% @Nat.mul_eq_zero:=@Nat.mul_eq_zero
theorem H7:type_of% @Nat.xor_assoc:=@Nat.xor_assoc
theorem L8:type_of% @Bool.not_eq_false':=@Bool.not_eq_false'
theorem L9:type_of% @Int.tdiv_eq_ediv_of_nonneg:=@Int.tdiv_eq_ediv_of_nonneg
theorem Ma:type_of% @Int.toNat_of_nonneg:=@Int.toNat_of_nonneg
theorem Mb:type_of% @List.filter_sublist:=@List.filter_sublist
theorem Mc:type_of% @List.getElem?_toArray:=@List.getElem?_toArray
theorem Me:type_of% @List.mem_of_mem_drop:=@List.mem_of_mem_drop
theorem Mf:type_of% @List.mem_of_mem_take:=@List.mem_of_mem_take
theorem Mg:type_of% @List.pairwise_append:=@List.pairwise_append
theorem Mh:type_of% @List.range_eq_range':=@List.range_eq_range'
theorem Mi:type_of% @List.take_add_one:=@List.take_add_one
theorem Mj:type_of% @Nat.mod_eq_of_lt:=@Nat.mod_eq_of_lt
theorem Mk:type_of% @Nat.ne_of_beq_eq_false:=@Nat.ne_of_beq_eq_false
theorem Ml:type_of% @Nat.pow_lt_pow_right:=@Nat.pow_lt_pow_right
theorem Mm:type_of% @Option.isSome_none:=@Option.isSome_none
theorem QB:type_of% @Array.getElem?_append_left:=@Array.getElem?_append_left
theorem QC:type_of% @Array.getElem?_setIfInBounds_self_of_lt:=@Array.getElem?_setIfInBounds_self_of_lt
theorem QD:type_of% @List.drop_append_of_le_length:=@List.drop_append_of_le_length
theorem QE:type_of% @List.extract_eq_take_drop:=@List.extract_eq_take_drop
theorem QF:type_of% @List.length_eq_one_iff:=@List.length_eq_one_iff
theorem QG:type_of% @List.take_append_of_le_length:=@List.take_append_of_le_length
theorem ae{α:Sort _}(a b:α):cond true a b=a:=rfl
theorem af{α:Sort _}(a b:α):cond false a b=b:=rfl
namespace Go.Gv
theorem AC{p:Prop}(h:p:=by omega):p:=h
theorem Do{p:Prop}(h:p:=by simp):p:=h
theorem EQ{p:Prop}[Decidable p](h:p:=by decide):p:=h
theorem Fd{p:Prop}(h:p:=by grind):p:=h
theorem FS{p:Prop}(h:p:=by rfl):p:=h
inductive DV where
 |bool (b:Bool)
 |int (k:IntKind) (n:Int)
 |str (s:List UInt8)
 |ptr (a:Option (Nat×Nat))
 |slice (sz:Nat) (a:Option (Nat×Nat)) (len:Nat)
 |agg (cs:List DV)
 |func (g:Nat) (first cap:List DV)
 |nilFunc
 |iface (t:Nat) (v:DV)
 |nilIface
 |nat (n:Nat)
abbrev DV.i(n:Int):DV:=.int .i64 n
abbrev DV.w(n:Int):DV:=.int .u64 n
abbrev DV.u(n:Int):DV:=.int .u8 n
abbrev DV.y(n:Int):DV:=.int .u32 n
structure bQ where
 gk:Bool
 cells:List DV
abbrev St:=List (Option bQ)
inductive Out (Y:Type) where
 |val (b:Y)
 |fH
abbrev M (Y:Type):=St->Option (Out Y×St)
abbrev Zf:=Nat->List DV->M (List DV)
variable {Y:Type}
def fail:M Y:=λ_=>none
abbrev bs (l:List UInt8):List UInt8:=l
def St.cells (s:St) (i:Nat):Option (List DV):=
 match s[i]? with
 |some (some b)=>some b.cells
 |_=>none
def St.iB (s:St) (i:Nat):Option (List DV):=
 match s[i]? with
 |some (some ⟨false,cs⟩)=>some cs
 |_=>none
def ov:List DV->List DV->List DV
 |_::cs,d::ds=>d::ov cs ds
 |cs,[]=>cs
 |[],_=>[]
def cG:List DV->Nat->List DV->List DV
 |cs,0,ds=>ov cs ds
 |c::cs,k+1,ds=>c::cG cs k ds
 |[],_+1,_=>[]
def bK (a:Option (Nat×Nat)) (K:Nat->Nat->M Y):M Y:=
 match a with
 |some (i,o)=>K i o
 |none=>fail
def bV (i o n:Nat) (K:List DV->M Y):M Y:=λs=>
 match s.cells i with
 |some cs=>bif Nat.ble (o+n) cs.length then K ((cs.drop o).take n) s else none
 |none=>none
def bH (i o:Nat) (K:DV->M Y):M Y:=λs=>
 match s.cells i with
 |some cs=>match cs[o]? with
  |some d=>K d s
  |none=>none
 |none=>none
def dE (i o:Nat) (ds:List DV) (K:M Y):M Y:=λs=>
 match s.iB i with
 |some cs=>bif Nat.ble (o+ds.length) cs.length then K (s.set i (some ⟨false,cG cs o ds⟩))else none
 |none=>none
def cj (cells:List DV) (K:Nat->M Y):M Y:=λs=>K s.length (s++[some ⟨false,cells⟩])
def dV (a:Option (Nat×Nat)) (n:Nat) (K:List DV->M Y):M Y:=
 match a with
 |some (i,o)=>bV i o n K
 |none=>bif Nat.beq n 0 then K []else fail
def AG (a:Option (Nat×Nat)) (ds:List DV) (K:M Y):M Y:=
 match a with
 |some (i,o)=>dE i o ds K
 |none=>bif Nat.beq ds.length 0 then K else fail
def cu (sz:Nat) (a:Option (Nat×Nat)) (len:Nat) (ds:List DV) (m lim:Nat) (K:Option (Nat×Nat)->M Y):M Y:=λs=>
 bif Nat.beq m 0 then K a s else
 bif Nat.ble (len+m) lim then
  match a with
  |none=>bif Nat.beq len 0 then K (some (s.length,0)) (s++[some ⟨false,ds⟩])else none
  |some (i,o)=>match s.iB i with
   |some cs=>bif Nat.ble (o+len*sz) cs.length then K (some (s.length,0)) (s.set i none++[some ⟨false,(cs.drop o).take (len*sz)++ds⟩])else none
   |none=>none
 else none
def aA (b:Bool) (K:M Y):M Y:=bif b then K else fail
variable {α Y:Type}
def c9 (m:M α) (K:α->M Y):M Y:=λs=>
 match m s with
 |some (.val ds,s')=>K ds s'
 |some (.fH,s')=>some (.fH,s')
 |none=>none
def St.Xy (s s':St):Prop:=∃r,s'=s++r
open Classical in
noncomputable def va (m:M α) (K:α->M Y):M Y:=λs=>
 match m s with
 |some (.val ds,s')=>if St.Xy s s' then K ds s' else none
 |_=>none
def yJ (m:M α) (K:α->M Y):M Y:=λs=>
 match m s with
 |some (.val ds,s')=>K ds s'
 |_=>none
def wg (m:M (List DV)) (H:Bool->M Y):M Y:=λs=>
 match m s with
 |some (.val _,s')=>H false s'
 |some (.fH,s')=>H true s'
 |none=>none
open Classical in
noncomputable def Jy (i:Nat) (m:M α):M α:=λs=>
 match m s with
 |some (.val ds,s')=>if s'[i]? =s[i]? then some (.val ds,s')else none
 |r=>r
def AF:M Y:=λs=>some (.fH,s)
def jm (f:Nat->M Y):M Y:=λs=>f s.length s
def lE (b:Nat) (s:St):St:=s.take b++(s.drop b).map (λx=>x.map λk=> { k with gk:=true })
def aw (ds:Y):M Y:=λs=>some (.val ds,s)
def cw (b:Nat) (ds:Y):M Y:=λs=>some (.val ds,lE b s)
theorem ZwZ (f:List DV->M Y) (g:(List DV->M Y)->M Y): ∃x:M Y,∀f' g',f'=f->g'=g->x=g' f':=Do
noncomputable def cO (f:List DV->M Y) (g:(List DV->M Y)->M Y):M Y:=Classical.choose (ZwZ f g)
theorem Ov (f:List DV->M Y) (g:(List DV->M Y)->M Y):cO f g=g f:=Classical.choose_spec (ZwZ f g) f g rfl rfl
def dc (F:(List DV->M Y)->List DV->M Y):Nat->List DV->M Y
 |0,_=>fail
 |n+1,st=>F (dc F n) st
def uZ (d:DV) (K:Bool->M Y):M Y:=match d with| .bool b=>K b|_=>fail
def wL:IntKind->IntKind->Bool
 | .i8,.i8| .i16,.i16| .i32,.i32| .i64,.i64| .u8,.u8| .u16,.u16| .u32,.u32| .u64,.u64=>true
 |_,_=>false
def db (k:IntKind) (d:DV) (K:Int->M Y):M Y:=match d with| .int k' n=>bif wL k' k then K n else fail|_=>fail
def Cm (d:DV) (K:List UInt8->M Y):M Y:=match d with| .str s=>K s|_=>fail
def Cl (d:DV) (K:Option (Nat×Nat)->M Y):M Y:=match d with| .ptr a=>K a|_=>fail
def dB (sz:Nat) (d:DV) (K:Option (Nat×Nat)->Nat->M Y):M Y:=
 match d with| .slice z a n=>bif Nat.beq z sz||a.isNone then K a n else fail|_=>fail
def Wz (d:DV) (K:Nat->List DV->List DV->M Y):M Y:=match d with| .func g f c=>K g f c|_=>fail
def uY (d:DV) (K:List DV->M Y):M Y:=match d with| .agg cs=>K cs|_=>fail
def ab6 (d:DV) (K:Nat->M Y):M Y:=match d with| .nat n=>K n|_=>fail
def lF (cs:List DV) (K:DV->List DV->M Y):M Y:=match cs with|d::r=>K d r|[]=>fail
def aF (cs:List DV) (K:M Y):M Y:=match cs with|[]=>K|_=>fail
def Wy (n:Nat) (cs:List DV) (K:List DV->List DV->M Y):M Y:=bif Nat.ble n cs.length then K (cs.take n) (cs.drop n)else fail
def eW (cs:List DV) (i:Nat) (K:DV->M Y):M Y:=match cs[i]? with|some d=>K d|none=>fail
def bC (ds:List DV) (n:Nat) (K:M Y):M Y:=bif Nat.beq ds.length n then K else fail
def we (pn:M Y) (d:DV) (t:Nat) (K:DV->M Y):M Y:=match d with| .iface t' v=>bif Nat.beq t' t then K v else pn| .nilIface=>pn|_=>fail
def uV:List DV->Option (List UInt8)
 |[]=>some []
 | .int .u8 n::r=>(uV r).map (UInt8.ofNat n.toNat:: ·)
 |_=>none
def nr (cs:List DV) (K:List UInt8->M Y):M Y:=match uV cs with|some l=>K l|none=>fail
def gT (st:List DV) (K:Bool->List DV->M Y):M Y:=lF st λd r=>uZ d λx=>K x r
def aC (k:IntKind) (st:List DV) (K:Int->List DV->M Y):M Y:=lF st λd r=>db k d λx=>K x r
def ft (st:List DV) (K:List UInt8->List DV->M Y):M Y:=lF st λd r=>Cm d λx=>K x r
def sj (st:List DV) (K:Option (Nat×Nat)->List DV->M Y):M Y:=lF st λd r=>Cl d λx=>K x r
def ca (sz:Nat) (st:List DV) (K:Option (Nat×Nat)->Nat->List DV->M Y):M Y:=lF st λd r=>dB sz d λa n=>K a n r
def WC (st:List DV) (K:Nat->List DV->List DV->List DV->M Y):M Y:=lF st λd r=>Wz d λg f c=>K g f c r
def bp (st:List DV) (K:List DV->List DV->M Y):M Y:=lF st λd r=>uY d λx=>K x r
def ab8 (st:List DV) (K:Nat->List DV->M Y):M Y:=lF st λd r=>ab6 d λx=>K x r
def ab7 (st:List DV) (K:DV->List DV->M Y):M Y:=lF st K
inductive B where
 |bool|int (k:IntKind)|str|ptr|slice (sz:Nat)|func|any|fy (n:Nat)
abbrev B.i:=B.int .i64
abbrev B.w:=B.int .u64
abbrev B.u:=B.int .u8
abbrev B.y:=B.int .u32
inductive Sh where
 |b (x:B)
 |agg (l:List B)
def d1 (x:B) (d:DV) (K:DV->M Y):M Y:=
 match x with
 | .bool=>uZ d λb=>K (.bool b)
 | .int k=>db k d λn=>K (.int k n)
 | .str=>Cm d λs=>K (.str s)
 | .ptr=>Cl d λa=>K (.ptr a)
 | .slice sz=>dB sz d λa n=>K (.slice sz a n)
 | .func=>Wz d λg f c=>K (.func g f c)
 | .any=>K d
 | .fy _=>fail
def pI:List B->List DV->(List DV->M Y)->M Y
 |[],cs,K=>aF cs (K [])
 |[.fy n],cs,K=>bC cs n (K cs)
 | .fy n::r,cs,K=>Wy n cs λxs rest=>pI r rest λds=>K (xs++ds)
 |x::r,cs,K=>lF cs λd rest=>d1 x d λd'=>pI r rest λds=>K (d'::ds)
def AK (x:Sh) (d:DV) (K:DV->M Y):M Y:=
 match x with
 | .b x=>d1 x d K
 | .agg l=>uY d λcs=>pI l cs λds=>K (.agg ds)
def Cu:List Sh->List DV->(List DV->M Y)->M Y
 |[],cs,K=>aF cs (K [])
 |x::r,cs,K=>lF cs λd rest=>AK x d λd'=>Cu r rest λds=>K (d'::ds)
def glue:List B->List B
 |[]=>[]
 | .fy n::r=>match glue r with
  | .fy m::r'=> .fy (n+m)::r'
  |r'=> .fy n::r'
 |x::r=>x::glue r
def Oy (P:Program):Nat->TypeId->List B
 |0,_=>[.any]
 |n+1,t=>
  match P.underlying t with
  |some .bool=>[.bool]
  |some (.int k)=>[.int k]
  |some .string=>[.str]
  |some (.pointer _)=>[.ptr]
  |some (.slice e)=>[.slice (P.cellsOf e)]
  |some (.func _ _ _)=>[.func]
  |some (.array m e)=>bif Nat.ble (m*P.cellsOf e) 8 then(List.replicate m (Oy P n e)).flatten else[.fy (m*P.cellsOf e)]
  |some (.struct fs)=>glue (fs.toList.flatMap λf=>Oy P n f.type)
  |_=>[.any]
def jQ (P:Program) (t:TypeId):Bool:=
 match P.underlying t with
 |some (.struct _)|some (.array _ _)=>true
 |_=>false
def oj (P:Program) (t:TypeId):Sh:=
 bif jQ P t then .agg (Oy P 20 t)else
 match Oy P 1 t with
 |[x]=> .b x
 |_=> .b .any
def aep (P:Program) (t:TypeId):Bool×List Sh:=
 match P.underlying t with
 |some (.tuple ts)=>(true,ts.toList.map (oj P))
 |_=>(false,[oj P t])
structure bE where
 P:Program
 fn:Nat->Nat
 cov:Nat->Bool
 ty:Nat->Nat
 gl:Nat->Nat
 CA:Nat->Bool
 Em:Nat->List B
 mp:Nat->Bool
def Dk:Value->Option DV
 | .bool b=>some (.bool b)
 | .int k n=>some (.int k n)
 | .string s=>some (.str s.data.toList)
 | .pointer none=>some (.ptr none)
 | .slice none 0 0=>some (.slice 0 none 0)
 | .nilFunc=>some .nilFunc
 | .nilIface=>some .nilIface
 |_=>none
def Jt:List Value->Option (List DV)
 |[]=>some []
 |v::r=>match Dk v,Jt r with
  |some d,some ds=>some (d::ds)
  |_,_=>none
inductive fg where
 |u
 |un
 |v (d:DV)
 |rN (ds:List DV)
 |loc (v n:Nat) (cs:List DV)
 |pl (r v o:Nat)
 |it (v:Nat) (s:List UInt8) (pos:Nat)
structure Env where
 bS:Nat
 l:List (Nat×fg)
def look:List (Nat×fg)->Nat->fg
 |[],_=> .u
 |(k,e)::r,t=>bif Nat.beq k t then e else look r t
def Env.get (E:Env) (t:Nat):fg:=look E.l t
def Env.put (E:Env) (t:Nat) (e:fg):Env:=⟨E.bS,(t,e)::E.l⟩
def Env.fD (E:Env) (t:Option Nat) (e:fg):Env:=match t with|some t=>E.put t e|none=>E
def has:List Nat->Nat->Bool
 |[],_=>false
 |k::r,t=>Nat.beq k t||has r t
def GR:List (Nat×fg)->List Nat->List (Nat×fg)
 |[],_=>[]
 |(k,e)::r,ts=>bif has ts k then GR r ts else(k,e)::GR r ts
def Env.del (E:Env) (ts:List Nat):Env:=⟨E.bS,GR E.l ts⟩
def Env.src (C:bE) (E:Env):Operand->fg
 | .tmp t=>match E.get t with
  | .loc v _ _=> .pl t v 0
  | .it _ _ _=> .u
  |e=>e
 | .const v=>(match Dk v with|some d=> .v d|none=> .u)
 | .global g=>bif C.CA g then .v (.ptr (some (C.gl g,0)))else .u
 | .func f=>bif C.cov f then .v (.func (C.fn f) [] [])else .u
def fO (C:bE) (E:Env) (x:Operand) (K:DV->M Y):M Y:=
 match E.src C x with
 | .v d=>K d
 |_=>fail
def Bv (C:bE) (E:Env):List Operand->(List DV->M Y)->M Y
 |[],K=>K []
 |x::r,K=>fO C E x λd=>Bv C E r λds=>K (d::ds)
def Oo (E:Env) (r v:Nat) (K:Nat->List DV->M Y):M Y:=
 match E.get r with
 | .loc v' n cs=>bif Nat.beq v' v then K n cs else fail
 |_=>fail
def Ek (C:bE) (E:Env) (x:Operand) (KL:Nat->Nat->Nat->M Y) (KH:Nat->Nat->M Y):M Y:=
 match E.src C x with
 | .pl r v o=>KL r v o
 | .v (.ptr a)=>bK a KH
 |_=>fail
def De (C:bE) (E:Env) (x:Operand) (K:Int->M Y):M Y:=fO C E x λd=>match d with| .int _ n=>K n|_=>fail
def XB (C:bE) (E:Env) (x:Operand) (K:Bool->M Y):M Y:=fO C E x λd=>match d with| .bool b=>K b|_=>fail
def Cv:B->DV->DV->Option Bool
 | .bool,.bool a,.bool b=>some (a==b)
 | .int k0,.int k a,.int k' b=>bif wL k0 k&&wL k k' then some (a==b)else none
 | .str,.str a,.str b=>some (a==b)
 |_,_,_=>none
def oF:List B->List DV->List DV->Option Bool
 |[],[],[]=>some true
 |k::ks,a::r,b::r'=>match Cv k a b,oF ks r r' with
  |some x,some y=>some (x&&y)
  |_,_=>none
 |_,_,_=>none
def ae1 (ag:List B) (xs ys:List DV) (K:Bool->M Y):M Y:=match oF ag xs ys with|some b=>K b|none=>fail
def OL (u:Option TypeDesc) (ag:List B) (a b:DV) (K:Bool->M Y):M Y:=
 match a,b with
 | .bool x,.bool y=>(match u with|some .bool=>K (x==y)|_=>fail)
 | .int k x,.int k' y=>bif wL k k' then K (x==y)else fail
 | .str x,.str y=>K (x==y)
 | .ptr x,.ptr none=>(match u with|some (.pointer _)=>K x.isNone|_=>fail)
 | .ptr none,.ptr x=>(match u with|some (.pointer _)=>K x.isNone|_=>fail)
 | .slice _ x _,.slice _ none _=>(match u with|some (.slice _)=>K x.isNone|_=>fail)
 | .slice _ none _,.slice _ x _=>(match u with|some (.slice _)=>K x.isNone|_=>fail)
 | .agg xs,.agg ys=>(match ag with|[]=>fail|k::ks=>(match oF (k::ks) xs ys with|some b=>K b|none=>fail))
 |_,_=>fail
def aq (n:Int):Int:=IntKind.i64.wrap n
def bits (op:BinOp) (k:IntKind) (x y:Int):Int:=
 let a:=BitVec.ofInt k.bits x
 let b:=BitVec.ofInt k.bits y
 match op with
 | .and=>k.wrap (a&&& b).toNat
 | .or=>k.wrap (a|||b).toNat
 | .xor=>k.wrap (a^^^b).toNat
 |_=>k.wrap (a&&& ~~~b).toNat
def strLt:List UInt8->List UInt8->Bool:=Op.bytesLess
def acr (u:Option TypeDesc) (ag:List B) (op:BinOp) (a b:DV) (K:DV->M Y):M Y:=
 match op with
 | .eql=>OL u ag a b λr=>K (.bool r)
 | .neq=>OL u ag a b λr=>K (.bool !r)
 | .shl=>match a,b with
  | .int k x,.int _ y=>aA (decide (0<=y)) (K (.int k (k.wrap (x*2^(min y.toNat k.bits)))))
  |_,_=>fail
 | .shr=>match a,b with
  | .int k x,.int _ y=>aA (decide (0<=y)) (K (.int k (x.fdiv (2^(min y.toNat k.bits)))))
  |_,_=>fail
 |op=>match a,b with
  | .int k x,.int k' y=>bif wL k k' then
    match op with
    | .add=>K (.int k (k.wrap (x+y)))
    | .sub=>K (.int k (k.wrap (x-y)))
    | .mul=>K (.int k (k.wrap (x*y)))
    | .quo=>aA (!(y==0)) (K (.int k (k.wrap (x.tdiv y))))
    | .rem=>aA (!(y==0)) (K (.int k (x.tmod y)))
    | .and| .or| .xor| .andNot=>K (.int k (bits op k x y))
    | .lss=>K (.bool (decide (x<y)))
    | .leq=>K (.bool (decide (x<=y)))
    | .gtr=>K (.bool (decide (x>y)))
    | .geq=>K (.bool (decide (x>=y)))
    |_=>fail
   else fail
  | .str x,.str y=>
   match op with
   | .add=>aA (Nat.ble (x.length+y.length) 4611686018427387904) (K (.str (x++y)))
   | .lss=>K (.bool (strLt x y))
   | .leq=>K (.bool (strLt x y||x==y))
   | .gtr=>K (.bool !(strLt x y||x==y))
   | .geq=>K (.bool !(strLt x y))
   |_=>fail
  |_,_=>fail
def unK (op:UnOp) (a:DV) (K:DV->M Y):M Y:=
 match op,a with
 | .not,.bool b=>K (.bool !b)
 | .neg,.int k n=>K (.int k (k.wrap (0-n)))
 |_,_=>fail
def aO (i:Int) (n:Nat):Bool:=decide (0<=i)&&decide (i<n)
def ZX (s:List UInt8) (i:Int):Int:=((s.getD i.toNat 0).toNat:Int)
def Z6 (s:List UInt8):List DV:=s.map λb=> .int .u8 b.toNat
def enc (n:Int):List UInt8:=(Utf8.encode n).data.toList
def dec (s:List UInt8) (i:Nat):Nat×Nat:=
 let at' (k:Nat):Nat:=(s.getD (i+k) 0).toNat
 let cont (k:Nat):Bool:=decide (i+k<s.length)&&at' k/64==2
 let b0:=at' 0
 if b0<0x80 then(b0,1)
 else if b0/32==6&&cont 1 then
  let c:=(b0%32)*64+at' 1%64
  if c>=0x80 then(c,2)else(Utf8.runeError,1)
 else if b0/16==14&&cont 1&&cont 2 then
  let c:=(b0%16)*4096+(at' 1%64)*64+at' 2%64
  if c>=0x800&&Utf8.valid c then(c,3)else(Utf8.runeError,1)
 else if b0/8==30&&cont 1&&cont 2&&cont 3 then
  let c:=(b0%8)*262144+(at' 1%64)*4096+(at' 2%64)*64+at' 3%64
  if c>=0x10000&&Utf8.valid c then(c,4)else(Utf8.runeError,1)
 else(Utf8.runeError,1)
def Eg (s:List UInt8) (i:Nat):Int:=((dec s i).1:Int)
def wR (s:List UInt8) (i:Nat):Nat:=(dec s i).2
def iO (n:Nat) (z:List DV):List DV:=(List.replicate n z).flatten
def yz (P:Program) (t:TypeId):Option TypeId:=match P.underlying t with|some (.slice e)=>some e|_=>none
def NK (P:Program) (t:TypeId):Nat:=match P.info? t with|some i=>i.bytes|none=>0
def Dg (P:Program) (e:TypeId):Nat:=70368744177664/(NK P e)
def oB (P:Program) (t:TypeId):Option (List DV):=match P.info? t with|some i=>(match i.zero with|some z=>Jt z.cells.toList|none=>none)|none=>none
def one:DV->Bool
 | .agg _=>false
 |_=>true
def sZ (P:Program) (t:TypeId) (K:M Y):M Y:=match P.underlying t with|some _=>K|none=>fail
def On (P:Program) (t:TypeId) (d:DV) (K:List DV->M Y):M Y:=
 sZ P t (bif jQ P t then(match d with| .agg cs=>bC cs (P.cellsOf t) (K cs)|_=>fail)
  else bif Nat.beq (P.cellsOf t) 1 then aA (one d) (K [d])else fail)
def zR (n m:Nat) (cs:List DV) (p:Nat) (ds:List DV):List DV:=bif Nat.beq m n&&Nat.beq p 0 then ds else cG cs p ds
def Df (E:Env) (C:bE) (N:Nat) (place:Nat->Option (Nat×Nat)):List (Nat×Operand)->List DV->(List DV->M Y)->M Y
 |[],cs,K=>K cs
 |(i,x)::r,cs,K=>match place i with
  |none=>fail
  |some (o,n)=>bif Nat.ble (o+n) N then fO C E x λd=>
   match d with
   | .agg ds=>bC ds n (Df E C N place r (zR N n cs o ds) K)
   |d=>bif Nat.beq n 1 then aA (one d) (Df E C N place r (cG cs o [d]) K)else fail
   else fail
def WY (P:Program) (t:TypeId):Nat->Option (Nat×Nat):=
 match P.underlying t with
 |some (.struct fs)=>λi=>match fs[i]? with|some f=>some (f.offset,P.cellsOf f.type)|none=>none
 |some (.array _ e)=>λi=>some (i*P.cellsOf e,P.cellsOf e)
 |_=>λ_=>none
def Zs2 (P:Program) (t:TypeId):Bool:=
 match P.underlying t with
 |some (.struct fs)=>fs.toList.all λf=>(P.info? f.type).isSome
 |some (.array _ e)=>(P.info? e).isSome
 |_=>false
def N8 (pr:List Nat) (o:Oper) (n:Nat) (cells:List DV) (E:Env) (K:Env->M Y):M Y:=
 match o.dst with
 |some t=>bif has pr t then K ⟨E.bS+1,(t,.loc E.bS n cells)::E.l⟩else cj cells λi=>K (E.put t (.v (.ptr (some (i,0)))))
 |none=>fail
def Jm (C:bE) (E:Env) (len:Nat) (lo hi:Option Operand) (K:Nat->Nat->M Y):M Y:=
 let low (h:Nat):M Y:=match lo with
  |none=>K 0 h
  |some x=>De C E x λl=>aA (decide (0<=l)&&decide (l<=h)) (K l.toNat h)
 match hi with
 |none=>low len
 |some x=>De C E x λh=>aA (decide (0<=h)&&decide (h<=len)) (low h.toNat)
def GP (lo hi:Bool) (s:List UInt8) (l h:Nat):List UInt8:=
 bif hi then(bif lo then(s.take h).drop l else s.take h)else(bif lo then s.drop l else s)
def cY (lo:Bool) (a:Option (Nat×Nat)) (k:Nat):Option (Nat×Nat):=bif lo then(match a with|some (i,o)=>some (i,k+o)|none=>none)else a
def JI (lo:Bool) (l h:Nat):Nat:=bif lo then h-l else h
def part (n:Nat) (cs:List DV) (p m:Nat):List DV:=bif Nat.beq m n&&Nat.beq p 0 then cs else(cs.drop p).take m
def uv (pr:List Nat):List Oper->Nat->Nat->Option Nat
 |_,0,_=>none
 |ops,n+1,t=>bif has pr t then some t else
  match ops.find? λo=>match o.dst with|some d=>Nat.beq d t|none=>false with
  |some o=>match o.op with
   | .fieldAddr _ (.tmp u) _| .indexAddr _ (.tmp u) _| .move (.tmp u)| .nilCheck (.tmp u)=>uv pr ops n u
   |_=>none
  |none=>none
def zL (pr:List Nat) (ops:List Oper):List Oper->List Nat
 |[]=>[]
 |o::r=>
  let m:=zL pr ops r
  let m:=match o.dst with|some d=>d::m|none=>m
  match o.op with
  | .store _ (.tmp a) _=>match uv pr ops 12 a with|some t=>t::m|none=>m
  | .next (.tmp t) _=>t::m
  |_=>m
def nI (pr:List Nat):Code->List Nat
 | .region _ ops _=>zL pr ops.toList ops.toList
 | .seq a b| .cond _ a b=>nI pr a++nI pr b
 | .block _ b| .loop b| .scope b=>nI pr b
 |_=>[]
inductive ni where
 |pure|hp|wr|call|yb (r:Nat)|qM (r:Nat)
 |lp (a:Nat)|ap (bs:List Nat)
inductive Md where
 |s
 |d (k:ni) (x:Nat)
def Md.loc:Md->Nat->Bool
 | .s,_=>true
 | .d (.yb q) _,r=>Nat.beq q r
 | .d (.qM q) _,r=>Nat.beq q r
 |_,_=>false
def Md.OM:Md->Bool
 | .s=>true
 | .d (.yb _) _=>false
 | .d (.qM _) _=>false
 |_=>true
def Md.x:Md->Nat
 | .s=>0
 | .d _ x=>x
def cls (P:Program) (pr:List Nat) (ops:List Oper) (o:Oper):ni:=
 match o.op with
 | .load _ (.tmp a)=>match uv pr ops 12 a with|some r=> .yb r|none=> .lp a
 | .load _ _=> .hp
 | .store _ (.tmp a) _=>match uv pr ops 12 a with|some r=> .qM r|none=> .ap []
 | .store .. => .wr
 | .alloc _| .box _ _| .buildSlice .. | .makeSlice .. | .convert .. | .range .. => .hp
 | .slice t .. =>match P.underlying t with|some (.array _ _)=> .hp|_=> .pure
 | .move _| .assign _| .pick .. | .build .. | .nilCheck _| .binOp .. | .unOp .. | .fieldAddr .. | .field .. | .indexAddr .. | .index .. | .extract .. | .makeInterface .. | .makeFunc .. => .pure
 | .call q=>match q.callee with
  | .builtin .len| .builtin .min| .builtin .max=> .pure
  | .builtin .append=> .ap []
  | .value _=>bif has pr 1000000 then .ap []else .call
  |_=> .wr
 | .next (.tmp t) _=> .qM t
 |_=> .wr
section
variable (C:bE) (E:Env) (o:Oper) (K:Env->M Y)
def cI (d:DV):M Y:=K (E.fD o.dst (.v d))
def Bq (e:fg):M Y:=K (E.fD o.dst e)
def Xi (b y z:Operand):M Y:=XB C E b λb=>bif b then Bq E o K (E.src C y)else Bq E o K (E.src C z)
def Wx (pr:List Nat) (t:TypeId):M Y:=
 match oB C.P t with
 |some z=>bif Nat.beq z.length (C.P.cellsOf t)then N8 pr o (C.P.cellsOf t) z E K else fail
 |none=>fail
def aba (pr:List Nat) (t:TypeId) (y:Operand):M Y:=fO C E y λd=>On C.P t d λcs=>N8 pr o (C.P.cellsOf t) cs E K
def WD (t:TypeId) (ps:Array (Nat×Operand)):M Y:=
 match oB C.P t with
 |some z=>bif Zs2 C.P t then Df E C z.length (WY C.P t) ps.toList z λcs=>cI E o K (.agg cs)else fail
 |none=>fail
def Tv (t:TypeId) (len:Nat) (ps:Array (Nat×Operand)):M Y:=
 match yz C.P t with
 |some e=>match oB C.P e with
  |some z=>bif Nat.ble (len*C.P.cellsOf e) 100000&&Nat.beq z.length (C.P.cellsOf e)then
    Df E C (len*C.P.cellsOf e) (λi=>some (i*C.P.cellsOf e,C.P.cellsOf e)) ps.toList (iO len z) λcs=>
     cj cs λi=>cI E o K (.slice (C.P.cellsOf e) (some (i,0)) len)
    else fail
  |none=>fail
 |none=>fail
def Oq (md:Md) (t:TypeId) (a:Operand):M Y:=
 sZ C.P t (Ek C E a
  (λr v p=>bif md.loc r then Oo E r v λn cs=>
   match oj C.P t with
   | .b y=>eW cs p λd=>d1 y d (cI E o K)
   | .agg _=>aA (Nat.ble (p+C.P.cellsOf t) n) (cI E o K (.agg (part n cs p (C.P.cellsOf t))))
   else fail)
  (λi p=>bif md.OM then
   match oj C.P t with
   | .b y=>bH i p λd=>d1 y d (cI E o K)
   | .agg l=>bV i p (C.P.cellsOf t) λcs=>pI l cs λds=>cI E o K (.agg ds)
   else fail))
def Wm (md:Md) (ms:List Nat) (t:TypeId) (a y:Operand):M Y:=
 fO C E y λd=>On C.P t d λds=>Ek C E a
  (λr v p=>bif has ms r&&md.loc r then Oo E r v λn cs=>aA (Nat.ble (p+C.P.cellsOf t) n) (K (E.put r (.loc v n (zR n (C.P.cellsOf t) cs p ds))))else fail)
  (λi p=>bif md.OM then dE i p ds (K E)else fail)
def U3 (y:Operand):M Y:=Ek C E y (λr v p=>Bq E o K (.pl r v p)) (λi p=>cI E o K (.ptr (some (i,p))))
def aa9 (op:BinOp) (t:TypeId) (y z:Operand):M Y:=fO C E y λa=>fO C E z λb=>acr (C.P.underlying t) (C.Em t) op a b (cI E o K)
def abc (op:UnOp) (y:Operand):M Y:=fO C E y λa=>unK op a (cI E o K)
def P4 (P:Program) (e:TypeId):Bool:=match P.underlying e with|some (.int .u8)=>true|_=>false
def VD (s t:TypeId) (y:Operand):M Y:=
 sZ C.P s (match C.P.underlying t with
  |some (.int k)=>fO C E y λd=>(match d with| .int _ n=>cI E o K (.int k (k.wrap n))|_=>fail)
  |some .string=>(match C.P.underlying s with
   |some (.int _)=>fO C E y λd=>(match d with| .int _ n=>cI E o K (.str (enc n))|_=>fail)
   |some .string=>fO C E y λd=>(match d with| .str l=>cI E o K (.str l)|_=>fail)
   |some (.slice e)=>bif P4 C.P e then fO C E y λd=>(match d with
    | .slice z a n=>bif Nat.beq z 1||a.isNone then dV a n λcs=>nr cs λl=>cI E o K (.str l)else fail
    |_=>fail)else fail
   |_=>fail)
  |some (.slice e)=>bif P4 C.P e then fO C E y λd=>(match d with
    | .str l=>cj (Z6 l) λi=>cI E o K (.slice 1 (some (i,0)) l.length)
    |_=>fail)else fail
  |_=>fail)
def WI (t:TypeId) (y:Operand):M Y:=
 match C.P.underlying t with
 |some (.interface _)=>fail
 |some _=>fO C E y λd=>cI E o K (.iface (C.ty t) d)
 |none=>fail
def W4 (f:Fn) (first cap:Array Operand):M Y:=
 match f with
 | .func f=>bif C.cov f then Bv C E first.toList λfs=>Bv C E cap.toList λcs=>cI E o K (.func (C.fn f) fs cs)else fail
 |_=>fail
def T0 (t:TypeId) (l c:Operand):M Y:=
 match yz C.P t with
 |some e=>match oB C.P e with
  |some z=>bif Nat.beq z.length (C.P.cellsOf e)then De C E l λn=>De C E c λm=>
    aA (decide (0<=n)&&decide (n<=m)&&decide (m<=Dg C.P e)) (cj (iO n.toNat z) λi=>cI E o K (.slice (C.P.cellsOf e) (some (i,0)) n.toNat))else fail
  |none=>fail
 |none=>fail
def WA (t:TypeId) (y:Operand) (lo hi:Option Operand):M Y:=
 match C.P.underlying t with
 |some .string=>fO C E y λd=>(match d with
  | .str s=>Jm C E s.length lo hi λl h=>cI E o K (.str (GP lo.isSome hi.isSome s l h))
  |_=>fail)
 |some (.slice e)=>sZ C.P e (fO C E y λd=>(match d with
  | .slice z a n=>bif Nat.beq z (C.P.cellsOf e)||a.isNone then Jm C E n lo hi λl h=>cI E o K (.slice z (cY lo.isSome a (l*C.P.cellsOf e)) (JI lo.isSome l h))else fail
  |_=>fail))
 |some (.array m e)=>sZ C.P e (fO C E y λd=>(match d with
  | .ptr a=>bK a λi p=>bV i p (m*C.P.cellsOf e) λ_=>Jm C E m lo hi λl h=>cI E o K (.slice (C.P.cellsOf e) (cY lo.isSome (some (i,p)) (l*C.P.cellsOf e)) (JI lo.isSome l h))
  |_=>fail))
 |_=>fail
def MP (t:TypeId) (y:Operand) (f:Nat):M Y:=
 match C.P.underlying t with
 |some (.struct fs)=>(match fs[f]? with
  |some f=>bif Nat.beq (C.P.cellsOf f.type) 0 then fail else Ek C E y (λr v p=>Bq E o K (.pl r v (p+f.offset))) (λi p=>cI E o K (.ptr (some (i,p+f.offset))))
  |none=>fail)
 |_=>fail
def WK (t:TypeId) (y:Operand) (f:Nat):M Y:=
 match C.P.underlying t with
 |some (.struct fs)=>(match fs[f]? with
  |some f=>sZ C.P f.type (fO C E y λd=>(match d with
   | .agg cs=>bif jQ C.P f.type then cI E o K (.agg ((cs.drop f.offset).take (C.P.cellsOf f.type)))else eW cs f.offset λd=>AK (oj C.P f.type) d (cI E o K)
   |_=>fail))
  |none=>fail)
 |_=>fail
def Ue (t:TypeId) (y i:Operand):M Y:=
 De C E i λn=>match C.P.underlying t with
 |some (.slice e)=>sZ C.P e (fO C E y λd=>(match d with
  | .slice z a m=>bif Nat.beq z (C.P.cellsOf e)||a.isNone then bK a λj p=>aA (aO n m) (cI E o K (.ptr (some (j,n.toNat*C.P.cellsOf e+p))))else fail
  |_=>fail))
 |some (.array m e)=>sZ C.P e (Ek C E y
  (λr v p=>aA (aO n m) (Bq E o K (.pl r v (n.toNat*C.P.cellsOf e+p))))
  (λj p=>aA (aO n m) (cI E o K (.ptr (some (j,n.toNat*C.P.cellsOf e+p))))))
 |_=>fail
def WX (t:TypeId) (y i:Operand):M Y:=
 De C E i λn=>fO C E y λd=>match C.P.underlying t,d with
 |some .string,.str s=>aA (aO n s.length) (cI E o K (.int .u8 (ZX s n)))
 |some (.array m e),.agg cs=>sZ C.P e (aA (aO n m) (bif jQ C.P e then cI E o K (.agg ((cs.drop (n.toNat*C.P.cellsOf e)).take (C.P.cellsOf e)))else eW cs (n.toNat*C.P.cellsOf e) λd=>AK (oj C.P e) d (cI E o K)))
 |_,_=>fail
def Wp (t:TypeId) (y:Operand):M Y:=
 match C.P.underlying t with
 |some .string=>fO C E y λd=>match d,o.dst with
  | .str s,some t=>K ⟨E.bS+1,(t,.it E.bS s 0)::E.l⟩
  |_,_=>fail
 |_=>fail
def Xc (ms:List Nat) (t:Nat):M Y:=
 match E.get t,o.dst with
 | .it v s p,some d=>bif Nat.beq d t|| !has ms t then fail else
   bif Nat.blt p s.length then K ((E.put t (.it v s (p+wR s p))).put d (.rN [.bool true,.int .i64 p,.int .i32 (Eg s p)]))
   else K (E.put d (.rN [.bool false]))
 |_,_=>fail
def LB (md:Md):M Y:=bif Nat.beq md.x 0 then AF else fail
def V9 (md:Md) (t:TypeId) (y:Operand):M Y:=
 match C.P.underlying t with
 |some (.interface _)=>fail
 |some _=>fO C E y λd=>we (LB md) d (C.ty t) λd=>AK (oj C.P t) d (cI E o K)
 |none=>fail
def VA (t i:Nat):M Y:=
 match E.get t with
 | .rN ds=>(match ds[i]? with|some d=>cI E o K d|none=>fail)
 |_=>fail
def Wi (md:Md) (y:Operand):M Y:=fO C E y λd=>match d with| .iface _ _=>LB md|_=>fail
noncomputable def OD (md:Md) (m:M (List DV)) (K:List DV->M Y):M Y:=
 match md.x with
 |0=>c9 m K
 |1=>yJ m K
 |_=>va m K
def Md.bs:Md->List Nat
 | .d (.ap bs) _=>bs
 |_=>[]
noncomputable def GO (E:Env):List Nat->M (List DV)->M (List DV)
 |[],m=>m
 |b::r,m=>match E.get b with
  | .v (.ptr (some (i,_)))=>Jy i (GO E r m)
  |_=>fail
noncomputable def Xf (md:Md) (c:Zf) (f:Operand) (as:Array Operand):M Y:=
 fO C E f λfv=>Bv C E as.toList λas=>match fv with
 | .func g fs cs=>match aep C.P o.type with
  |(true,LK)=>bif Nat.beq LK.length 1 then fail else OD md (GO E md.bs (c g (fs++as++cs))) λds=>Cu LK ds λds=>Bq E o K (.rN ds)
  |(false,LK)=>OD md (GO E md.bs (c g (fs++as++cs))) λds=>Cu LK ds λds=>match ds with|[d]=>cI E o K d|_=>fail
 |_=>fail
def abb (ts:Array TypeId) (as:Array Operand):M Y:=
 match as.toList,ts[0]? with
 |[y],some t=>(match C.P.underlying t with
  |some (.array m _)=>cI E o K (.int .i64 m)
  |some .string=>fO C E y λd=>(match d with| .str s=>cI E o K (.int .i64 s.length)|_=>fail)
  |some (.slice _)=>fO C E y λd=>(match d with| .slice _ _ n=>cI E o K (.int .i64 n)|_=>fail)
  |_=>fail)
 |_,_=>fail
def aa6 (P:Program) (ts:Array TypeId) (K:M Y):M Y:=
 match ts[1]? with
 |none=>K
 |some t=>match P.underlying t with
  |some (.int _)=>fail
  |some _=>K
  |none=>fail
def Wf (ts:Array TypeId) (as:Array Operand):M Y:=
 match as.toList,ts[0]? with
 |[y,z],some t=>(match yz C.P t with
  |some e=>sZ C.P e (aa6 C.P ts (match oB C.P e with
   |some zv=>bif !Nat.beq zv.length (C.P.cellsOf e)then fail else fO C E y λa=>fO C E z λb=>(match a,b with
    | .slice w p n,.slice w' p' m=>bif (Nat.beq w (C.P.cellsOf e)||p.isNone)&&(Nat.beq w' (C.P.cellsOf e)||p'.isNone)then
      dV p' (m*C.P.cellsOf e) λds=>cu (C.P.cellsOf e) p n ds m (Dg C.P e) λHN=>cI E o K (.slice (C.P.cellsOf e) HN (n+m))else fail
    | .slice w p n,.str l=>bif (Nat.beq w 1||p.isNone)&&Nat.beq (C.P.cellsOf e) 1 then cu 1 p n (Z6 l) l.length (Dg C.P e) λHN=>cI E o K (.slice 1 HN (n+l.length))else fail
    |_,_=>fail)
   |none=>fail))
  |none=>fail)
 |_,_=>fail
def Xb (ts:Array TypeId) (as:Array Operand):M Y:=
 match as.toList,ts[0]? with
 |[y,z],some t=>(match yz C.P t with
  |some e=>sZ C.P e (fO C E y λa=>fO C E z λb=>(match a,b with
   | .slice w p n,.slice w' p' m=>bif (Nat.beq w (C.P.cellsOf e)||p.isNone)&&(Nat.beq w' (C.P.cellsOf e)||p'.isNone)then dV p' (min m n*C.P.cellsOf e) λds=>AG p ds (cI E o K (.int .i64 (min m n)))else fail
   | .slice w p n,.str l=>bif (Nat.beq w 1||p.isNone)&&Nat.beq (C.P.cellsOf e) 1 then AG p (Z6 (l.take n)) (cI E o K (.int .i64 (min l.length n)))else fail
   |_,_=>fail))
  |none=>fail)
 |_,_=>fail
def Qe (mx:Bool) (as:Array Operand):M Y:=
 match as.toList with
 |[y,z]=>fO C E y λa=>fO C E z λb=>(match a,b with
  | .int k a,.int k' b=>bif wL k k' then cI E o K (.int k (bif mx then(if a<b then b else a)else(if b<a then b else a)))else fail
  |_,_=>fail)
 |_=>fail
def W3 (ts:Array TypeId) (as:Array Operand):M Y:=
 match as.toList,ts[0]? with
 |[y],some t=>(match yz C.P t with
  |some e=>fO C E y λa=>(match a,oB C.P e with
   | .slice w p n,some z=>bif (Nat.beq w (C.P.cellsOf e)||p.isNone)&&Nat.beq z.length (C.P.cellsOf e)then AG p (iO n z) (Bq E o K (.rN []))else fail
   |_,_=>fail)
  |none=>fail)
 |_,_=>fail
end
def apart (p:Option (Nat×Nat)) (i:Nat):Bool:=match p with|some (j,_)=> !Nat.beq i j|none=>true
def JF (E:Env) (p:Option (Nat×Nat)):List Nat->M Y->M Y
 |[],K=>K
 |b::r,K=>match E.get b with
  | .v (.ptr (some (i,_)))=>aA (apart p i) (JF E p r K)
  |_=>fail
def Xs (C:bE) (E:Env) (bs:List Nat) (as:Array Operand) (X:M Y):M Y:=
 match bs with
 |[]=>X
 |b::r=>match as.toList with
  |y::_=>fO C E y λa=>(match a with| .slice _ p _=>JF E p (b::r) X|_=>fail)
  |_=>fail
def stK (C:bE) (E:Env) (bs:List Nat) (a:Operand) (X:M Y):M Y:=
 match bs with
 |[]=>X
 |b::r=>match E.src C a with
  | .v (.ptr p)=>JF E p (b::r) X
  |_=>fail
noncomputable def fU (C:bE) (pr ms:List Nat) (md:Md) (c:Zf) (o:Oper) (E:Env) (K:Env->M Y):M Y:=
 match o.op with
 | .move y| .assign y=>Bq E o K (E.src C y)
 | .pick b y z=>Xi C E o K b y z
 | .alloc t=>Wx C E o K pr t
 | .box t y=>aba C E o K pr t y
 | .build t ps=>WD C E o K t ps
 | .buildSlice t len ps=>Tv C E o K t len ps
 | .load t a=>Oq C E o K md t a
 | .store t a y=>bif o.dst.isNone then stK C E md.bs a (Wm C E K md ms t a y)else fail
 | .nilCheck y=>U3 C E o K y
 | .binOp op t y z _=>aa9 C E o K op t y z
 | .unOp op _ y=>abc C E o K op y
 | .convert s t y=>VD C E o K s t y
 | .makeInterface t y=>WI C E o K t y
 | .makeFunc f first cap=>W4 C E o K f first cap
 | .makeSlice t l c=>T0 C E o K t l c
 | .slice t y lo hi none=>WA C E o K t y lo hi
 | .fieldAddr t y f=>MP C E o K t y f
 | .field t y f=>WK C E o K t y f
 | .indexAddr t y i=>Ue C E o K t y i
 | .index t y i=>WX C E o K t y i
 | .range t y=>Wp C E o K t y
 | .next (.tmp t) true=>Xc E o K ms t
 | .typeAssert y _ t false=>V9 C E o K md t y
 | .extract (.tmp t) i=>VA E o K t i
 | .panic y=>Wi C E md y
 | .call q=>match q.callee with
  | .value f=>Xf C E o K md c f q.args
  | .builtin .len=>abb C E o K q.argTypes q.args
  | .builtin .append=>Xs C E md.bs q.args (Wf C E o K q.argTypes q.args)
  | .builtin .copy=>Xb C E o K q.argTypes q.args
  | .builtin .min=>Qe C E o K false q.args
  | .builtin .max=>Qe C E o K true q.args
  | .builtin .clear=>W3 C E o K q.argTypes q.args
  |_=>fail
 |_=>fail
def Bp (C:bE) (E:Env) (x:Operand) (K:Nat->Nat->M Y):M Y:=match E.src C x with
 | .v (.ptr (some (i,p)))=>K i p
 |_=>fail
def yL (i p:Nat) (K:IntKind->Int->M Y):M Y:=bH i p λd=>match d with
 | .int k n=>K k n
 |_=>fail
def iP (i p:Nat) (k:IntKind) (n:Int) (K:M Y):M Y:=bH i p λd=>match d with
 | .int k' n'=>bif wL k k'&&(n==n')then K else fail
 |_=>fail
def il:List (Oper×Md)->List Nat
 |[]=>[]
 |(o,_)::r=>match o.dst with|some d=>d::il r|none=>il r
def D5 (r:Nat):List (Oper×Md)->List (Oper×Md)->Option (List (Oper×Md)×Oper×List (Oper×Md))
 |_,[]=>none
 |acc,(o,x)::rest=>match o.op with
  | .pick (.tmp t) _ _=>bif Nat.beq t r then some (acc.reverse,o,rest)else D5 r ((o,x)::acc) rest
  |_=>D5 r ((o,x)::acc) rest
def OQ:List (Nat×Bool)->Nat×Bool->Bool
 |[],_=>false
 |(k,b)::r,g=>(Nat.beq k g.1&&(b==g.2))||OQ r g
def OR (act:List (Nat×Bool)):Option (Nat×Bool)->Bool
 |none=>true
 |some g=>OQ act g
def Eo (pr:List Nat) (dst:Nat->Option Nat) (j:Nat) (w:Bool) (r:Nat):List Nat->List (Oper×Md)->Bool
 |_,[]=>true
 |aby,(o,_)::rest=>
  (match o.op with
   | .store .. | .next .. | .range .. =>false
   | .alloc _| .box _ _=>(match o.dst with|some d=> !has pr d|none=>false)
   |_=>true)&&
  (match o.guard with
   |none=>false
   |some (j',w')=>(Nat.beq j' j&&(w'==w))||(match dst j' with|some d=>has aby d|none=>false))&&
  (match o.dst with
   |some d=> !Nat.beq d r&&Eo pr dst j w r (d::aby) rest
   |none=>Eo pr dst j w r aby rest)
noncomputable def uW (C:bE) (pr ms:List Nat) (c:Zf) (dst:Nat->Option Nat):Nat->List (Oper×Md)->List (Nat×Bool)->Env->(Env->M Y)->M Y
 |_,[],_,E,K=>K E
 |0,_::_,_,_,_=>fail
 |n+1,(o,x)::rest,act,E,K=>
  bif OR act o.guard then fU C pr ms x c o E λE'=>uW C pr ms c dst n rest act E' K
  else match o.guard with
   |none=>fail
   |some (j,w)=>match dst j with
    |none=>fail
    |some r=>match E.get r,D5 r [] ((o,x)::rest)with
     | .v (.bool b),some (fb,pk,p8)=>match pk.op,pk.dst with
      | .pick _ y z,some t=>
       bif OR act pk.guard&&Eo pr dst j w r [] fb then
        cO (λst=>lF st λd st=>uZ d λv=>aF st (uW C pr ms c dst n p8 act ((E.del (il fb)).put t (.v (.bool v))) K))
         λjk=>
          let yes:M Y:=uW C pr ms c dst n fb ((j,w)::act) (E.put r (.v (.bool w))) λE1=>fO C E1 (bif w then y else z) λd=>jk [d]
          let no:M Y:=fO C ((E.del (il fb)).put r (.v (.bool !w))) (bif w then z else y) λd=>jk [d]
          bif w then(bif b then yes else no)else(bif b then no else yes)
       else fail
      |_,_=>fail
     |_,_=>fail
def AI:ni->ni->Bool
 | .pure,_|_,.pure=>false
 | .qM r,.yb q| .yb r,.qM q| .qM r,.qM q=>Nat.beq r q
 | .yb _,_|_,.yb _| .qM _,_|_,.qM _=>false
 | .ap bs,.lp b| .lp b,.ap bs=> !has bs b
 | .wr,_|_,.wr| .ap _,_|_,.ap _=>true
 | .call,.call=>true
 |_,_=>false
def Xd:ni->ni->Bool
 | .ap _,.lp _=>true
 |k,k'=>AI k k'
structure gS where
 bf:Nat
 k:ni
 dst:Option Nat
 lk:Nat
def GK (o:Oper) (acc:List Nat):Nat:=o.after.toList.foldl (λm e=>bif Region.binds .any e then m|||2^e.on|||acc.getD e.on 0 else m) 0
def sS (pr:List Nat) (ops:List Oper) (o:Oper):Nat:=
 let m:=o.op.operands.toList.foldl (λm x=>match x with| .tmp t=>m|||2^t|_=>m) 0
 let m:=match o.guard with
  |some (j,_)=>(match ops[j]? with|some g=>(match g.dst with|some t=>m|||2^t|none=>m)|none=>m)
  |none=>m
 match o.op with
 | .load _ (.tmp a)=>(match uv pr ops 12 a with|some r=>m|||2^r|none=>m)
 | .store _ (.tmp a) _=>(match uv pr ops 12 a with|some r=>m|||2^r|none=>m)
 |_=>m
def JD (m:Nat):Nat->List Oper->List Nat
 |_,[]=>[]
 |j,o::r=>match o.op with
  | .load _ (.tmp b)=>bif m.testBit j then JD m (j+1) r else b::JD m (j+1) r
  |_=>JD m (j+1) r
def zK (b:Nat) (o:Oper):Bool:=match o.op with
 | .load _ (.tmp a)=>Nat.beq a b
 |_=>false
def Ll (b:Nat):List Oper->Bool
 |[]=>true
 |o::r=>bif zK b o then(o::r).all (λo=>match o.dst with|some d=> !Nat.beq d b|none=>true)else Ll b r
def wS (pr:List Nat) (ops:List Oper) (k m:Nat):ni->ni
 | .ap _=> .ap ((JD m 0 (ops.take k)).filter λb=>Ll b (ops.take k)&&(uv pr ops 12 b).isNone)
 |c=>c
def sV (P:Program) (pr:List Nat) (ops:List Oper):List Oper->List Nat->List gS
 |[],_=>[]
 |o::r,acc=>let b:=GK o acc;⟨b,wS pr ops acc.length b (cls P pr ops o),o.dst,sS pr ops o⟩::sV P pr ops r (acc++[b])
def OH (d:Option Nat) (m:Nat):Bool:=match d with|some t=>m.testBit t|none=>false
def XL (d e:Option Nat):Bool:=match d,e with|some t,some u=>Nat.beq t u|_,_=>false
def Oh (i:Nat) (p:gS):List gS->Bool
 |[]=>true
 |q::r=>(q.bf.testBit i||(!Xd p.k q.k&& !OH p.dst q.lk&& !OH q.dst p.lk&& !XL p.dst q.dst))&&Oh i p r
def Fh:Nat->List gS->List Oper->Bool
 |_,[],_=>true
 |_,_::_,[]=>false
 |i,p::r,o::os=>Nat.blt p.bf (2^i)&&(match o.guard with|some (j,_)=>p.bf.testBit j|none=>true)&&Oh i p r&&Fh (i+1) r os
def xp (i bi:Nat) (f:ni->Bool):Nat->List gS->Bool
 |_,[]=>false
 |j,q::r=>(!Nat.beq i j&& !q.bf.testBit i&& !bi.testBit j&&f q.k)||xp i bi f (j+1) r
def HK:ni->Bool
 | .hp=>true
 | .lp _=>true
 |_=>false
def Ee:ni->Bool
 | .pure=>true
 | .yb _=>true
 |_=>false
def Ca (i bi:Nat):Nat->List gS->Bool
 |_,[]=>false
 |j,q::r=>(!Nat.beq i j&& !q.bf.testBit i&& !bi.testBit j&& !(Nat.blt j i&&Ee q.k))||Ca i bi (j+1) r
def mpO (mp:Nat->Bool) (o:Oper):Bool:=match o.op with
 | .call q=>(match q.callee with
  | .value (.func f)=>mp f
  |_=>false)
 |_=>false
def flags (mp:Nat->Bool) (all:List gS):Nat->List gS->List Oper->List (Oper×Md)
 |_,[],_=>[]
 |_,_,[]=>[]
 |i,p::r,o::os=>
  (o,.d p.k (bif xp i p.bf (λ_=>true) 0 all then(bif mpO mp o&& !Ca i p.bf 0 all then 0 else(match p.k with| .call=>(bif xp i p.bf HK 0 all then 2 else 1)|_=>1))else 0))::flags mp all (i+1) r os
noncomputable def Qn (C:bE) (pr:List Nat) (c:Zf) (ops:Array Oper) (draw:Bool) (E:Env) (K:Env->M Y):M Y:=
 let l:=ops.toList
 let ms:=zL pr l l
 let dst (j:Nat):Option Nat:=match l[j]? with|some o=>o.dst|none=>none
 bif draw then
  let is:=sV C.P pr l l []
  bif Fh 0 is l then uW C pr ms c dst l.length (flags C.mp is 0 is l) [] E K else fail
 else uW C pr ms c dst l.length (l.map λo=>(o,.s)) [] E K
inductive JS where
 |v (x:Sh)
 |l (x:List B)
 |t
inductive rV where
 |z
 |n (a b:rV)
 |j (J:List (Nat×JS)) (a b:rV)
def rV.a:rV->rV| .n a _=>a| .j _ a _=>a| .z=> .z
def rV.b:rV->rV| .n _ b=>b| .j _ _ b=>b| .z=> .z
def tS (E0 E:Env):List (Nat×JS)->(List DV->M Y)->M Y
 |[],K=>K []
 |(t,x)::r,K=>match x,E.get t with
  | .v _,.v d=>tS E0 E r λds=>K (d::ds)
  | .l _,.loc v _ cs=>(match E0.get t with| .loc v0 _ _=>bif Nat.beq v0 v then tS E0 E r λds=>K (.agg cs::ds)else fail|_=>fail)
  | .t,.it v _ p=>(match E0.get t with| .it v0 _ _=>bif Nat.beq v0 v then tS E0 E r λds=>K (.nat p::ds)else fail|_=>fail)
  |_,_=>fail
def uq (E:Env):List (Nat×JS)->List DV->Env->(Env->M Y)->M Y
 |[],st,E1,K=>aF st (K E1)
 |(t,x)::r,st,E1,K=>lF st λd rest=>match x,E.get t with
  | .v x,_=>AK x d λd=>uq E r rest (E1.put t (.v d)) K
  | .l x,.loc v n _=>uY d λcs=>pI x cs λcs=>uq E r rest (E1.put t (.loc v n cs)) K
  | .t,.it v s _=>ab6 d λp=>uq E r rest (E1.put t (.it v s p)) K
  |_,_=>fail
def Dm (iK:List Nat):List (Nat×JS)->Bool
 |[]=>true
 |(t,_)::r=>has iK t&&Dm iK r
noncomputable def aaT (E:Env) (iK:List Nat) (J:List (Nat×JS)) (K:Env->M Y) (g:((Env->M Y)->M Y)):M Y:=
 bif Dm iK J then cO (λst=>uq E J st (E.del iK) K) λjk=>g λE1=>tS E E1 J jk else fail
noncomputable def exec (C:bE) (pr:List Nat) (c:Zf) (n:Nat):Code->rV->(Env->M Y)->(Nat->Env->M Y)->(Env->M Y)->Env->M Y
 | .skip,_,kn,_,_,E=>kn E
 | .seq a b,A,kn,kx,kr,E=>exec C pr c n a A.a (λE'=>exec C pr c n b A.b kn kx kr E') kx kr E
 | .region _ ops d,_,kn,_,_,E=>Qn C pr c ops d E kn
 | .cond x a b,A,kn,kx,kr,E=>XB C E x λv=>
   match A with
   | .j J A1 A2=>aaT E (nI pr a++nI pr b) J kn λjk=>bif v then exec C pr c n a A1 jk kx kr E else exec C pr c n b A2 jk kx kr E
   |A=>bif v then exec C pr c n a A.a kn kx kr E else exec C pr c n b A.b kn kx kr E
 | .block id body,A,kn,kx,kr,E=>
   match A with
   | .j J A1 _=>aaT E (nI pr body) J kn λjk=>exec C pr c n body A1 jk (λi E1=>bif Nat.beq i id then jk E1 else kx i E1) kr E
   |A=>exec C pr c n body A.a kn (λi E1=>bif Nat.beq i id then kn E1 else kx i E1) kr E
 | .loop body,A,_,kx,kr,E=>
   match A with
   | .j J A1 _=>bif Dm (nI pr body) J then tS E E J λst=>dc (λrec st=>uq E J st (E.del (nI pr body)) λE1=>exec C pr c n body A1 (λE2=>tS E E2 J rec) kx kr E1) n st else fail
   |_=>fail
 | .exit id,_,_,kx,_,E=>kx id E
 | .ret,_,_,_,kr,E=>kr E
 |_,_,_,_,_,_=>fail
def okO (ok:Nat->Bool):List Oper->Bool
 |[]=>true
 |o::r=>(match o.dst with|some d=>ok d|none=>true)&&okO ok r
def zN (ok:Nat->Bool):Code->Bool
 | .region _ ops _=>okO ok ops.toList
 | .seq a b| .cond _ a b=>zN ok a&&zN ok b
 | .block _ b| .loop b| .scope b=>zN ok b
 |_=>true
def um (n d:Nat):Bool:=Nat.blt d n
structure FA where
 pr:List Nat
 JC:rV
 gk:Bool
def wQ (C:bE) (E:Env):List ResultVar->(List DV->M Y)->M Y
 |[],K=>K []
 | .tmp t::r,K=>fO C E (.tmp t) λd=>wQ C E r λds=>K (d::ds)
 | .cell a t::r,K=>match E.get a with
  | .loc _ n cs=>sZ C.P t (bif jQ C.P t then(bif Nat.beq n (C.P.cellsOf t)then wQ C E r λds=>K (.agg cs::ds)else fail)else eW cs 0 λd=>wQ C E r λds=>K (d::ds))
  |_=>fail
def kS:Nat->List DV->List (Nat×fg)
 |_,[]=>[]
 |t,d::r=>(t,.v d)::kS (t+1) r
noncomputable def wh (C:bE) (A:FA) (fn:Func) (c:Zf) (n:Nat) (args:List DV):M (List DV):=
 match fn.body with
 |some code=>bif zN (um fn.ntmps) code&&Nat.ble (fn.params.size+fn.nfree) fn.ntmps then Cu (fn.params.toList.map (oj C.P)++List.replicate fn.nfree (.b .ptr)) args λds=>
   bif A.gk then jm λb=>
    let kr (E:Env):M (List DV):=wQ C E fn.results.toList λds=>cw b ds
    exec C A.pr c n code A.JC kr (λ_ _=>fail) kr ⟨0,kS 0 ds⟩
   else
    let kr (E:Env):M (List DV):=wQ C E fn.results.toList λds=>aw ds
    exec C A.pr c n code A.JC kr (λ_ _=>fail) kr ⟨0,kS 0 ds⟩
   else fail
 |none=>fail
abbrev Zg:=Nat->Zf->Nat->List DV->M (List DV)
def run (Bd:Zg):Nat->Zf
 |0,_,_=>fail
 |n+1,g,args=>Bd g (run Bd n) n args
noncomputable def nh (m:M (List DV)) (K:Int->M Y):M Y:=yJ m λds=>aC .i64 ds λa0 r0=>aF r0<|K a0
noncomputable def DE (m:M (List DV)) (K:List UInt8->M Y):M Y:=yJ m λds=>ft ds λa0 r0=>aF r0<|K a0
noncomputable def rW (m:M (List DV)) (K:Int->M Y):M Y:=va m λds=>aC .i64 ds λa0 r0=>aF r0<|K a0
noncomputable def D3 (m:M (List DV)) (K:Int->M Y):M Y:=va m λds=>aC .u64 ds λa0 r0=>aF r0<|K a0
noncomputable def lV (m:M (List DV)) (K:List UInt8->M Y):M Y:=va m λds=>ft ds λa0 r0=>aF r0<|K a0
noncomputable def C_ (m:M (List DV)) (K:M Y):M Y:=c9 m λds=>aF ds<|K
noncomputable def ME (m:M (List DV)) (K:Int->Int->Int->Int->Int->Int->Int->Int->Option (Nat×Nat)->Nat->Bool->M Y):M Y:=c9 m λds=>bp ds λq1 r0=>aC .i64 q1 λa0 r2=>aC .i64 r2 λa1 r3=>aC .i64 r3 λa2 r4=>aC .i64 r4 λa3 r5=>aC .i64 r5 λa4 r6=>aC .i64 r6 λa5 r7=>aC .i64 r7 λa6 r8=>aC .i64 r8 λa7 r9=>ca 1 r9 λa8 a9 sW=>aF sW<|gT r0 λjB Br=>aF Br<|K a0 a1 a2 a3 a4 a5 a6 a7 a8 a9 jB
noncomputable def II (m:M (List DV)) (K:Int->Int->Int->Int->Int->Int->M Y):M Y:=c9 m λds=>bp ds λq1 r0=>aC .i64 q1 λa0 r2=>aC .i64 r2 λa1 r3=>aC .i64 r3 λa2 r4=>aC .i64 r4 λa3 r5=>aC .i64 r5 λa4 r6=>aF r6<|aC .i64 r0 λa5 r7=>aF r7<|K a0 a1 a2 a3 a4 a5
noncomputable def Gd (m:M (List DV)) (K:Int->Int->Int->Int->Option (Nat×Nat)->Nat->Bool->M Y):M Y:=c9 m λds=>bp ds λq1 r0=>aC .i64 q1 λa0 r2=>aC .i64 r2 λa1 r3=>aC .i64 r3 λa2 r4=>aC .i64 r4 λa3 r5=>ca 1 r5 λa4 a5 r6=>aF r6<|gT r0 λa6 r7=>aF r7<|K a0 a1 a2 a3 a4 a5 a6
noncomputable def FU (m:M (List DV)) (K:Int->Int->Int->Option (Nat×Nat)->Nat->Option (Nat×Nat)->Nat->Option (Nat×Nat)->Nat->Option (Nat×Nat)->Int->M Y):M Y:=c9 m λds=>bp ds λq1 r0=>aC .i64 q1 λa0 r2=>aC .i64 r2 λa1 r3=>aC .i64 r3 λa2 r4=>ca 2 r4 λa3 a4 r5=>ca 1 r5 λa5 a6 r6=>ca 1 r6 λa7 a8 r7=>aF r7<|sj r0 λa9 r8=>aC .i64 r8 λjB r9=>aF r9<|K a0 a1 a2 a3 a4 a5 a6 a7 a8 a9 jB
noncomputable def bF (m:M (List DV)) (K:Bool->M Y):M Y:=c9 m λds=>gT ds λa0 r0=>aF r0<|K a0
noncomputable def vK (m:M (List DV)) (K:DV->M Y):M Y:=c9 m λds=>ab7 ds λa0 r0=>aF r0<|K a0
noncomputable def cK (m:M (List DV)) (K:Int->M Y):M Y:=c9 m λds=>aC .i64 ds λa0 r0=>aF r0<|K a0
noncomputable def tE (m:M (List DV)) (K:Int->Int->Option (Nat×Nat)->Nat->Bool->M Y):M Y:=c9 m λds=>aC .i64 ds λa0 r0=>aC .i64 r0 λa1 r1=>ca 1 r1 λa2 a3 r2=>gT r2 λa4 r3=>aF r3<|K a0 a1 a2 a3 a4
noncomputable def yI (m:M (List DV)) (K:Int->Int->List UInt8->Bool->M Y):M Y:=c9 m λds=>aC .i64 ds λa0 r0=>aC .i64 r0 λa1 r1=>ft r1 λa2 r2=>gT r2 λa3 r3=>aF r3<|K a0 a1 a2 a3
noncomputable def vZ (m:M (List DV)) (K:Int->M Y):M Y:=c9 m λds=>aC .u32 ds λa0 r0=>aF r0<|K a0
noncomputable def vW (m:M (List DV)) (K:Int->M Y):M Y:=c9 m λds=>aC .u64 ds λa0 r0=>aF r0<|K a0
noncomputable def jL (m:M (List DV)) (K:Option (Nat×Nat)->Nat->M Y):M Y:=c9 m λds=>ca 1 ds λa0 a1 r0=>aF r0<|K a0 a1
noncomputable def MB (m:M (List DV)) (K:Option (Nat×Nat)->Nat->Int->Int->Int->Int->Int->Int->Int->Int->Option (Nat×Nat)->Nat->Bool->M Y):M Y:=c9 m λds=>ca 1 ds λa0 a1 r0=>bp r0 λq2 r1=>aC .i64 q2 λa2 r3=>aC .i64 r3 λa3 r4=>aC .i64 r4 λa4 r5=>aC .i64 r5 λa5 r6=>aC .i64 r6 λa6 r7=>aC .i64 r7 λa7 r8=>aC .i64 r8 λa8 r9=>aC .i64 r9 λa9 sW=>ca 1 sW λjB nu Br=>aF Br<|gT r1 λa12 r12=>aF r12<|K a0 a1 a2 a3 a4 a5 a6 a7 a8 a9 jB nu a12
noncomputable def tt (m:M (List DV)) (K:Option (Nat×Nat)->Nat->Bool->M Y):M Y:=c9 m λds=>ca 1 ds λa0 a1 r0=>gT r0 λa2 r1=>aF r1<|K a0 a1 a2
noncomputable def Gx (m:M (List DV)) (K:Option (Nat×Nat)->Nat->Option (Nat×Nat)->Nat->Bool->M Y):M Y:=c9 m λds=>ca 4 ds λa0 a1 r0=>ca 1 r0 λa2 a3 r1=>gT r1 λa4 r2=>aF r2<|K a0 a1 a2 a3 a4
noncomputable def Ae (m:M (List DV)) (K:Option (Nat×Nat)->M Y):M Y:=c9 m λds=>sj ds λa0 r0=>aF r0<|K a0
noncomputable def jM (m:M (List DV)) (K:List UInt8->M Y):M Y:=c9 m λds=>ft ds λa0 r0=>aF r0<|K a0
noncomputable def vL (m:M (List DV)) (K:List UInt8->Bool->M Y):M Y:=c9 m λds=>ft ds λa0 r0=>gT r0 λa1 r1=>aF r1<|K a0 a1
noncomputable def yp (st:List DV) (K:Int->Int->Int->Int->Int->Int->Int->Int->Option (Nat×Nat)->Nat->M Y):M Y:=bp st λq1 r0=>aC .i64 q1 λa0 r2=>aC .i64 r2 λa1 r3=>aC .i64 r3 λa2 r4=>aC .i64 r4 λa3 r5=>aC .i64 r5 λa4 r6=>aC .i64 r6 λa5 r7=>aC .i64 r7 λa6 r8=>aC .i64 r8 λa7 r9=>ca 1 r9 λa8 a9 sW=>aF sW<|aF r0<|K a0 a1 a2 a3 a4 a5 a6 a7 a8 a9
noncomputable def F4 (st:List DV) (K:Int->Int->Int->Int->Option (Nat×Nat)->Nat->M Y):M Y:=bp st λq1 r0=>aC .i64 q1 λa0 r2=>aC .i64 r2 λa1 r3=>aC .i64 r3 λa2 r4=>aC .i64 r4 λa3 r5=>ca 1 r5 λa4 a5 r6=>aF r6<|aF r0<|K a0 a1 a2 a3 a4 a5
noncomputable def MF (st:List DV) (K:Int->Int->Int->Int->Int->Int->Int->Int->M Y):M Y:=bp st λq1 r0=>aC .i64 q1 λa0 r2=>aC .i64 r2 λa1 r3=>aC .i64 r3 λa2 r4=>aC .i64 r4 λa3 r5=>aF r5<|bp r0 λq7 r6=>aC .i64 q7 λa4 r8=>aC .i64 r8 λa5 r9=>aC .i64 r9 λa6 sW=>aC .i64 sW λa7 Br=>aF Br<|aF r6<|K a0 a1 a2 a3 a4 a5 a6 a7
noncomputable def yq (st:List DV) (K:Int->Int->Int->Option (Nat×Nat)->Nat->Option (Nat×Nat)->Nat->Option (Nat×Nat)->Nat->M Y):M Y:=bp st λq1 r0=>aC .i64 q1 λa0 r2=>aC .i64 r2 λa1 r3=>aC .i64 r3 λa2 r4=>ca 2 r4 λa3 a4 r5=>ca 1 r5 λa5 a6 r6=>ca 1 r6 λa7 a8 r7=>aF r7<|aF r0<|K a0 a1 a2 a3 a4 a5 a6 a7 a8
noncomputable def D1 (st:List DV) (K:Int->Int->Int->M Y):M Y:=bp st λq1 r0=>aC .i64 q1 λa0 r2=>aC .i64 r2 λa1 r3=>aC .i64 r3 λa2 r4=>aF r4<|aF r0<|K a0 a1 a2
noncomputable def jN (st:List DV) (K:Bool->M Y):M Y:=gT st λa0 r0=>aF r0<|K a0
noncomputable def se (st:List DV) (K:Bool->Int->Int->M Y):M Y:=gT st λa0 r0=>aC .i64 r0 λa1 r1=>aC .i64 r1 λa2 r2=>aF r2<|K a0 a1 a2
noncomputable def cT (st:List DV) (K:Int->M Y):M Y:=aC .i64 st λa0 r0=>aF r0<|K a0
noncomputable def ab1 (st:List DV) (K:Int->Bool->M Y):M Y:=aC .i64 st λa0 r0=>gT r0 λa1 r1=>aF r1<|K a0 a1
noncomputable def Zxd (st:List DV) (K:Int->Bool->Int->M Y):M Y:=aC .i64 st λa0 r0=>gT r0 λa1 r1=>aC .i64 r1 λa2 r2=>aF r2<|K a0 a1 a2
noncomputable def jx (st:List DV) (K:Int->Int->M Y):M Y:=aC .i64 st λa0 r0=>aC .i64 r0 λa1 r1=>aF r1<|K a0 a1
noncomputable def Ei (st:List DV) (K:Int->Int->Int->M Y):M Y:=aC .i64 st λa0 r0=>aC .i64 r0 λa1 r1=>aC .i64 r1 λa2 r2=>aF r2<|K a0 a1 a2
noncomputable def xo (st:List DV) (K:Int->Int->Int->Int->M Y):M Y:=aC .i64 st λa0 r0=>aC .i64 r0 λa1 r1=>aC .i64 r1 λa2 r2=>aC .i64 r2 λa3 r3=>aF r3<|K a0 a1 a2 a3
noncomputable def Ztr (st:List DV) (K:Int->Int->Int->Int->Bool->M Y):M Y:=aC .i64 st λa0 r0=>aC .i64 r0 λa1 r1=>aC .i64 r1 λa2 r2=>aC .i64 r2 λa3 r3=>gT r3 λa4 r4=>aF r4<|K a0 a1 a2 a3 a4
noncomputable def We (st:List DV) (K:Int->Int->Int->Int->Int->M Y):M Y:=aC .i64 st λa0 r0=>aC .i64 r0 λa1 r1=>aC .i64 r1 λa2 r2=>aC .i64 r2 λa3 r3=>aC .i64 r3 λa4 r4=>aF r4<|K a0 a1 a2 a3 a4
noncomputable def ZU (st:List DV) (K:Int->Int->Int->Int->Int->Int->Int->Int->Option (Nat×Nat)->Nat->M Y):M Y:=aC .i64 st λa0 r0=>aC .i64 r0 λa1 r1=>aC .i64 r1 λa2 r2=>aC .i64 r2 λa3 r3=>aC .i64 r3 λa4 r4=>aC .i64 r4 λa5 r5=>aC .i64 r5 λa6 r6=>aC .i64 r6 λa7 r7=>ca 1 r7 λa8 a9 r8=>aF r8<|K a0 a1 a2 a3 a4 a5 a6 a7 a8 a9
noncomputable def Zvc (st:List DV) (K:Int->Int->Option (Nat×Nat)->Nat->M Y):M Y:=aC .i64 st λa0 r0=>aC .i64 r0 λa1 r1=>ca 1 r1 λa2 a3 r2=>aF r2<|K a0 a1 a2 a3
noncomputable def qZ (st:List DV) (K:Int->Int->Option (Nat×Nat)->Nat->Option (Nat×Nat)->Nat->Option (Nat×Nat)->Nat->M Y):M Y:=aC .i64 st λa0 r0=>aC .i64 r0 λa1 r1=>ca 2 r1 λa2 a3 r2=>ca 1 r2 λa4 a5 r3=>ca 1 r3 λa6 a7 r4=>aF r4<|K a0 a1 a2 a3 a4 a5 a6 a7
noncomputable def B3 (st:List DV) (K:Int->Int->M Y):M Y:=aC .u64 st λa0 r0=>aC .i64 r0 λa1 r1=>aF r1<|K a0 a1
noncomputable def Zvp (st:List DV) (K:Int->Bool->M Y):M Y:=aC .u8 st λa0 r0=>gT r0 λa1 r1=>aF r1<|K a0 a1
noncomputable def Zq3 (st:List DV) (K:Int->Int->M Y):M Y:=aC .u8 st λa0 r0=>aC .u8 r0 λa1 r1=>aF r1<|K a0 a1
noncomputable def ck (st:List DV) (K:Option (Nat×Nat)->Nat->M Y):M Y:=ca 1 st λa0 a1 r0=>aF r0<|K a0 a1
noncomputable def Q5 (st:List DV) (K:Option (Nat×Nat)->Nat->Int->Int->Int->Option (Nat×Nat)->Nat->Option (Nat×Nat)->Nat->Option (Nat×Nat)->Nat->Int->M Y):M Y:=ca 1 st λa0 a1 r0=>bp r0 λq2 r1=>aC .i64 q2 λa2 r3=>aC .i64 r3 λa3 r4=>aC .i64 r4 λa4 r5=>ca 2 r5 λa5 a6 r6=>ca 1 r6 λa7 a8 r7=>ca 1 r7 λa9 jB r8=>aF r8<|aC .i64 r1 λnu r9=>aF r9<|K a0 a1 a2 a3 a4 a5 a6 a7 a8 a9 jB nu
noncomputable def Zg7 (st:List DV) (K:Option (Nat×Nat)->Nat->Int->Int->Int->Option (Nat×Nat)->Nat->Option (Nat×Nat)->Nat->Option (Nat×Nat)->Nat->Int->Int->M Y):M Y:=ca 1 st λa0 a1 r0=>bp r0 λq2 r1=>aC .i64 q2 λa2 r3=>aC .i64 r3 λa3 r4=>aC .i64 r4 λa4 r5=>ca 2 r5 λa5 a6 r6=>ca 1 r6 λa7 a8 r7=>ca 1 r7 λa9 jB r8=>aF r8<|aC .i64 r1 λnu r9=>aC .i64 r9 λa12 sW=>aF sW<|K a0 a1 a2 a3 a4 a5 a6 a7 a8 a9 jB nu a12
noncomputable def Jw (st:List DV) (K:Option (Nat×Nat)->Nat->Bool->M Y):M Y:=ca 1 st λa0 a1 r0=>gT r0 λa2 r1=>aF r1<|K a0 a1 a2
noncomputable def q9 (st:List DV) (K:Option (Nat×Nat)->Nat->Int->M Y):M Y:=ca 1 st λa0 a1 r0=>aC .i64 r0 λa2 r1=>aF r1<|K a0 a1 a2
noncomputable def yA (st:List DV) (K:Option (Nat×Nat)->Nat->Int->Int->M Y):M Y:=ca 1 st λa0 a1 r0=>aC .i64 r0 λa2 r1=>aC .i64 r1 λa3 r2=>aF r2<|K a0 a1 a2 a3
noncomputable def Ms (st:List DV) (K:Nat->M Y):M Y:=ab8 st λa0 r0=>aF r0<|K a0
noncomputable def jO (st:List DV) (K:Option (Nat×Nat)->M Y):M Y:=sj st λa0 r0=>aF r0<|K a0
noncomputable def qU (st:List DV) (K:Option (Nat×Nat)->Int->M Y):M Y:=sj st λa0 r0=>aC .i64 r0 λa1 r1=>aF r1<|K a0 a1
noncomputable def GH (st:List DV) (K:Option (Nat×Nat)->Int->Int->M Y):M Y:=sj st λa0 r0=>aC .i64 r0 λa1 r1=>aC .i64 r1 λa2 r2=>aF r2<|K a0 a1 a2
noncomputable def mF (st:List DV) (K:List UInt8->M Y):M Y:=ft st λa0 r0=>aF r0<|K a0
noncomputable def MA (st:List DV) (K:List UInt8->Int->Int->Int->Int->Int->Int->Int->Int->Option (Nat×Nat)->Nat->M Y):M Y:=ft st λa0 r0=>bp r0 λq2 r1=>aC .i64 q2 λa1 r3=>aC .i64 r3 λa2 r4=>aC .i64 r4 λa3 r5=>aC .i64 r5 λa4 r6=>aC .i64 r6 λa5 r7=>aC .i64 r7 λa6 r8=>aC .i64 r8 λa7 r9=>aC .i64 r9 λa8 sW=>ca 1 sW λa9 jB Br=>aF Br<|aF r1<|K a0 a1 a2 a3 a4 a5 a6 a7 a8 a9 jB
noncomputable def qV (st:List DV) (K:List UInt8->Int->M Y):M Y:=ft st λa0 r0=>aC .i64 r0 λa1 r1=>aF r1<|K a0 a1
def ZN (a0:Bool) (a1:Int) (a2:Int) (a3:Bool) (a4:Int) (a5:Int) (a6:Bool) (a7:Int) (a8:Int) (a9:Bool) (jB:Int) (nu:Int) (a12:Bool) (Ej:Int) (Jz:Int) (Xn:Bool) (Xo:Int) (a17:Int) (Xp:Bool) (Xq:Int) (a20:Int) (a21:Bool):List DV:=[.agg [.bool a0,.int .i64 a1,.int .i64 a2,.bool a3,.int .i64 a4,.int .i64 a5,.bool a6,.int .i64 a7,.int .i64 a8,.bool a9,.int .i64 jB,.int .i64 nu,.bool a12,.int .i64 Ej,.int .i64 Jz,.bool Xn,.int .i64 Xo,.int .i64 a17,.bool Xp,.int .i64 Xq,.int .i64 a20],.bool a21]
def FW (a0:Int) (a1:Int) (a2:Int) (a3:Int) (a4:Int) (a5:Int) (a6:Int) (a7:Int) (a8:Option (Nat×Nat)) (a9:Nat) (jB:Bool):List DV:=[.agg [.int .i64 a0,.int .i64 a1,.int .i64 a2,.int .i64 a3,.int .i64 a4,.int .i64 a5,.int .i64 a6,.int .i64 a7,.slice 0 a8 a9],.bool jB]
def yr (a0:Int) (a1:Int) (a2:Int) (a3:Int) (a4:Int) (a5:Int) (a6:Int) (a7:Int) (a8:Option (Nat×Nat)) (a9:Nat):List DV:=[.agg [.int .i64 a0,.int .i64 a1,.int .i64 a2,.int .i64 a3,.int .i64 a4,.int .i64 a5,.int .i64 a6,.int .i64 a7,.slice 1 a8 a9]]
def Iq (a0:Int) (a1:Int) (a2:Int) (a3:Int) (a4:Int) (a5:Int) (a6:Int) (a7:Int) (a8:Option (Nat×Nat)) (a9:Nat) (jB:Int) (nu:Bool):List DV:=[.agg [.int .i64 a0,.int .i64 a1,.int .i64 a2,.int .i64 a3,.int .i64 a4,.int .i64 a5,.int .i64 a6,.int .i64 a7,.slice 1 a8 a9],.int .i64 jB,.bool nu]
def I5 (a0:Int) (a1:Int) (a2:Int) (a3:Int) (a4:Int) (a5:Int):List DV:=[.agg [.int .i64 a0,.int .i64 a1,.int .i64 a2,.int .i64 a3,.int .i64 a4],.int .i64 a5]
def BR (a0:Int) (a1:Int) (a2:Int) (a3:Int) (a4:Option (Nat×Nat)) (a5:Nat) (a6:Bool):List DV:=[.agg [.int .i64 a0,.int .i64 a1,.int .i64 a2,.int .i64 a3,.slice 0 a4 a5],.bool a6]
def F5 (a0:Int) (a1:Int) (a2:Int) (a3:Int) (a4:Option (Nat×Nat)) (a5:Nat) (a6:Int):List DV:=[.agg [.int .i64 a0,.int .i64 a1,.int .i64 a2,.int .i64 a3,.slice 0 a4 a5],.int .i64 a6]
def yy (a0:Int) (a1:Int) (a2:Int) (a3:Int) (a4:Option (Nat×Nat)) (a5:Nat):List DV:=[.agg [.int .i64 a0,.int .i64 a1,.int .i64 a2,.int .i64 a3,.slice 1 a4 a5]]
def FZ (a0:Int) (a1:Int) (a2:Int) (a3:Int) (a4:Option (Nat×Nat)) (a5:Nat) (a6:Bool):List DV:=[.agg [.int .i64 a0,.int .i64 a1,.int .i64 a2,.int .i64 a3,.slice 1 a4 a5],.bool a6]
def Ge (a0:Int) (a1:Int) (a2:Int) (a3:Int) (a4:Option (Nat×Nat)) (a5:Nat) (a6:Int):List DV:=[.agg [.int .i64 a0,.int .i64 a1,.int .i64 a2,.int .i64 a3,.slice 1 a4 a5],.int .i64 a6]
def BU (a0:Int) (a1:Int) (a2:Int) (a3:Int) (a4:Int) (a5:Int) (a6:Int) (a7:Int):List DV:=[.agg [.int .i64 a0,.int .i64 a1,.int .i64 a2,.int .i64 a3],.agg [.int .i64 a4,.int .i64 a5,.int .i64 a6,.int .i64 a7]]
def BQ (a0:Int) (a1:Int) (a2:Int) (a3:Option (Nat×Nat)) (a4:Nat) (a5:Option (Nat×Nat)) (a6:Nat) (a7:Option (Nat×Nat)) (a8:Nat) (a9:Option (Nat×Nat)) (jB:Nat) (nu:Bool):List DV:=[.agg [.int .i64 a0,.int .i64 a1,.int .i64 a2,.slice 0 a3 a4,.slice 0 a5 a6,.slice 0 a7 a8],.slice 0 a9 jB,.bool nu]
def BP (a0:Int) (a1:Int) (a2:Int) (a3:Option (Nat×Nat)) (a4:Nat) (a5:Option (Nat×Nat)) (a6:Nat) (a7:Option (Nat×Nat)) (a8:Nat):List DV:=[.agg [.int .i64 a0,.int .i64 a1,.int .i64 a2,.slice 2 a3 a4,.slice 1 a5 a6,.slice 1 a7 a8]]
def vX (a0:Int) (a1:Int) (a2:Int):List DV:=[.agg [.int .i64 a0,.int .i64 a1,.int .i64 a2]]
def FX (a0:List UInt8) (a1:Int) (a2:Int) (a3:Int) (a4:Int) (a5:Int) (a6:Int) (a7:Int) (a8:Int) (a9:Int) (jB:Int) (nu:Int) (a12:Int) (Ej:Int) (Jz:Bool):List DV:=[.agg [.str a0,.int .i64 a1,.int .i64 a2,.int .i64 a3,.int .i64 a4,.int .i64 a5,.int .i64 a6,.int .i64 a7,.int .i64 a8,.int .i64 a9,.int .i64 jB,.int .i64 nu,.int .i64 a12,.int .i64 Ej],.bool Jz]
def Lb (a0:Bool):List DV:=[.bool a0]
def FO (a0:Bool) (a1:Int):List DV:=[.bool a0,.int .i64 a1]
def tw (a0:Bool) (a1:Int) (a2:Int):List DV:=[.bool a0,.int .i64 a1,.int .i64 a2]
def DN (a0:Bool) (a1:Int) (a2:Int) (a3:Bool) (a4:Int) (a5:Int) (a6:Bool) (a7:Int) (a8:Int) (a9:Bool) (jB:Int) (nu:Int) (a12:Bool) (Ej:Int) (Jz:Int) (Xn:Bool) (Xo:Int) (a17:Int) (Xp:Bool) (Xq:Int) (a20:Int):List DV:=[.bool a0,.int .i64 a1,.int .i64 a2,.bool a3,.int .i64 a4,.int .i64 a5,.bool a6,.int .i64 a7,.int .i64 a8,.bool a9,.int .i64 jB,.int .i64 nu,.bool a12,.int .i64 Ej,.int .i64 Jz,.bool Xn,.int .i64 Xo,.int .i64 a17,.bool Xp,.int .i64 Xq,.int .i64 a20]
def Li (a0:Int):List DV:=[.int .i64 a0]
def gG (a0:Int) (a1:Int):List DV:=[.int .i64 a0,.int .i64 a1]
def DH (a0:Int):List DV:=[.int .i32 a0]
def Ag (a0:Int) (a1:Int) (a2:Int):List DV:=[.int .i64 a0,.int .i64 a1,.int .i64 a2]
def qW (a0:Int) (a1:Int) (a2:List UInt8):List DV:=[.int .i64 a0,.int .i64 a1,.str a2]
def lW (a0:Int):List DV:=[.int .u32 a0]
def q8 (a0:Int) (a1:Int):List DV:=[.int .u32 a0,.int .i64 a1]
def lX (a0:Int):List DV:=[.int .u64 a0]
def ZF (a0:Int) (a1:Int):List DV:=[.int .u64 a0,.int .i64 a1]
def lA (a0:Int):List DV:=[.int .u8 a0]
def vN (a0:Option (Nat×Nat)) (a1:Nat) (a2:Bool):List DV:=[.slice 0 a0 a1,.bool a2]
def jy (a0:Option (Nat×Nat)) (a1:Nat) (a2:Int):List DV:=[.slice 0 a0 a1,.int .i64 a2]
def tI (a0:Option (Nat×Nat)) (a1:Nat) (a2:Option (Nat×Nat)) (a3:Nat) (a4:Bool):List DV:=[.slice 0 a0 a1,.slice 0 a2 a3,.bool a4]
def bj (a0:Option (Nat×Nat)) (a1:Nat):List DV:=[.slice 1 a0 a1]
def fj (a0:Option (Nat×Nat)) (a1:Nat) (a2:Int):List DV:=[.slice 1 a0 a1,.int .i64 a2]
def jA (a0:Option (Nat×Nat)) (a1:Nat) (a2:Int) (a3:Int):List DV:=[.slice 1 a0 a1,.int .i64 a2,.int .i64 a3]
def tx (a0:Option (Nat×Nat)) (a1:Nat):List DV:=[.slice 4 a0 a1]
def Lp (a0:Option (Nat×Nat)):List DV:=[.ptr a0]
def iT (a0:Option (Nat×Nat)) (a1:Int):List DV:=[.ptr a0,.int .i64 a1]
def xc (a0:Option (Nat×Nat)) (a1:List UInt8):List DV:=[.ptr a0,.str a1]
def Ls (a0:List UInt8):List DV:=[.str a0]
def xd (a0:List UInt8) (a1:Bool):List DV:=[.str a0,.bool a1]
def fF (a0:List UInt8) (a1:Int):List DV:=[.str a0,.int .i64 a1]
def Ah (a0:List UInt8) (a1:Int) (a2:Int):List DV:=[.str a0,.int .i64 a1,.int .i64 a2]
def FV (a0:List UInt8) (a1:Int) (a2:Int) (a3:Int) (a4:Int) (a5:Int) (a6:Int) (a7:Int) (a8:Int) (a9:Int) (jB:Int) (nu:Int) (a12:Int) (Ej:Int):List DV:=[.str a0,.int .i64 a1,.int .i64 a2,.int .i64 a3,.int .i64 a4,.int .i64 a5,.int .i64 a6,.int .i64 a7,.int .i64 a8,.int .i64 a9,.int .i64 jB,.int .i64 nu,.int .i64 a12,.int .i64 Ej]
def DU (a0:List UInt8) (a1:Int) (a2:Int) (a3:Int):List DV:=[.str a0,.int .i64 a1,.int .u8 a2,.int .u8 a3]
noncomputable def N_ (p:Option (Nat×Nat)) (x:Int) (l:Nat) (K:Nat->Nat->M Y):M Y:=bK p λi o=>aA (aO x l)<|K i o
noncomputable def Q_ (f:M Y) (g:(List DV->M Y)->M Y):M Y:=cO (λst=>aF st<|f) g
noncomputable def R8 (f:Int->Int->Int->Int->Int->Int->Int->Int->Option (Nat×Nat)->Nat->M Y) (g:(List DV->M Y)->M Y):M Y:=cO (λst=>bp st λq1 r0=>aC .i64 q1 λa0 r2=>aC .i64 r2 λa1 r3=>aC .i64 r3 λa2 r4=>aC .i64 r4 λa3 r5=>aC .i64 r5 λa4 r6=>aC .i64 r6 λa5 r7=>aC .i64 r7 λa6 r8=>aC .i64 r8 λa7 r9=>ca 1 r9 λa8 a9 sW=>aF sW<|aF r0<|f a0 a1 a2 a3 a4 a5 a6 a7 a8 a9) g
noncomputable def RC (f:Int->Int->Int->Int->Int->Int->Int->Int->Option (Nat×Nat)->Nat->Int->Bool->M Y) (g:(List DV->M Y)->M Y):M Y:=cO (λst=>bp st λq1 r0=>aC .i64 q1 λa0 r2=>aC .i64 r2 λa1 r3=>aC .i64 r3 λa2 r4=>aC .i64 r4 λa3 r5=>aC .i64 r5 λa4 r6=>aC .i64 r6 λa5 r7=>aC .i64 r7 λa6 r8=>aC .i64 r8 λa7 r9=>ca 1 r9 λa8 a9 sW=>aF sW<|aC .i64 r0 λjB Br=>gT Br λnu r12=>aF r12<|f a0 a1 a2 a3 a4 a5 a6 a7 a8 a9 jB nu) g
noncomputable def Gb (f:Int->Int->Int->Int->Option (Nat×Nat)->Nat->M Y) (g:(List DV->M Y)->M Y):M Y:=cO (λst=>bp st λq1 r0=>aC .i64 q1 λa0 r2=>aC .i64 r2 λa1 r3=>aC .i64 r3 λa2 r4=>aC .i64 r4 λa3 r5=>ca 1 r5 λa4 a5 r6=>aF r6<|aF r0<|f a0 a1 a2 a3 a4 a5) g
noncomputable def az (f:Bool->M Y) (g:(List DV->M Y)->M Y):M Y:=cO (λst=>gT st λa0 r0=>aF r0<|f a0) g
noncomputable def qg (f:Int->M Y) (g:(List DV->M Y)->M Y):M Y:=cO (λst=>aC .i64 st λa0 r0=>aF r0<|f a0) g
noncomputable def yE (f:Int->M Y) (g:(List DV->M Y)->M Y):M Y:=cO (λst=>aC .u32 st λa0 r0=>aF r0<|f a0) g
noncomputable def Cj (f:Int->M Y) (g:(List DV->M Y)->M Y):M Y:=cO (λst=>aC .u64 st λa0 r0=>aF r0<|f a0) g
noncomputable def Ib (f:Int->M Y) (g:(List DV->M Y)->M Y):M Y:=cO (λst=>aC .u8 st λa0 r0=>aF r0<|f a0) g
noncomputable def gj (f:Option (Nat×Nat)->Nat->M Y) (g:(List DV->M Y)->M Y):M Y:=cO (λst=>ca 1 st λa0 a1 r0=>aF r0<|f a0 a1) g
noncomputable def DK (f:Option (Nat×Nat)->Nat->M Y) (g:(List DV->M Y)->M Y):M Y:=cO (λst=>ca 4 st λa0 a1 r0=>aF r0<|f a0 a1) g
noncomputable def uL (f:List UInt8->M Y) (g:(List DV->M Y)->M Y):M Y:=cO (λst=>ft st λa0 r0=>aF r0<|f a0) g
noncomputable def F0 (f:(List DV->M Y)->Int->Int->Int->Int->Option (Nat×Nat)->Nat->Int->M Y) (n:Nat) (l:List DV):M Y:=dc (λrec st=>bp st λq1 r0=>aC .i64 q1 λa0 r2=>aC .i64 r2 λa1 r3=>aC .i64 r3 λa2 r4=>aC .i64 r4 λa3 r5=>ca 1 r5 λa4 a5 r6=>aF r6<|aC .i64 r0 λa6 r7=>aF r7<|f rec a0 a1 a2 a3 a4 a5 a6) n l
noncomputable def dj (f:(List DV->M Y)->Int->M Y) (n:Nat) (l:List DV):M Y:=dc (λrec st=>aC .i64 st λa0 r0=>aF r0<|f rec a0) n l
noncomputable def yH (f:(List DV->M Y)->Int->Int->M Y) (n:Nat) (l:List DV):M Y:=dc (λrec st=>aC .u32 st λa0 r0=>aC .i64 r0 λa1 r1=>aF r1<|f rec a0 a1) n l
noncomputable def Aw (f:(List DV->M Y)->Int->Int->M Y) (n:Nat) (l:List DV):M Y:=dc (λrec st=>aC .u64 st λa0 r0=>aC .i64 r0 λa1 r1=>aF r1<|f rec a0 a1) n l
noncomputable def l9 (f:(List DV->M Y)->Option (Nat×Nat)->Nat->Int->M Y) (n:Nat) (l:List DV):M Y:=dc (λrec st=>ca 1 st λa0 a1 r0=>aC .i64 r0 λa2 r1=>aF r1<|f rec a0 a1 a2) n l
noncomputable def vQ (f:(List DV->M Y)->List UInt8->Int->M Y) (n:Nat) (l:List DV):M Y:=dc (λrec st=>ft st λa0 r0=>aC .i64 r0 λa1 r1=>aF r1<|f rec a0 a1) n l
noncomputable def Zo (s:Nat) (p:Option (Nat×Nat)) (x:Int) (l:Nat) (K:Int->M Y):M Y:=bK p λi o=>aA (aO x l)<|bH i (x.toNat*s+o) λd=>db .i64 d λv=>K v
noncomputable def xj (s:Nat) (p:Option (Nat×Nat)) (x:Int) (l:Nat) (K:Int->M Y):M Y:=bK p λi o=>aA (aO x l)<|bH i (x.toNat*s+o) λd=>db .u64 d λv=>K v
noncomputable def Aj (s:Nat) (p:Option (Nat×Nat)) (x:Int) (l:Nat) (K:List UInt8->M Y):M Y:=bK p λi o=>aA (aO x l)<|bH i (x.toNat*s+o) λd=>Cm d λv=>K v
noncomputable def si (i p:Nat) (K:Bool->M Y):M Y:=bH i p λd=>uZ d λv=>K v
noncomputable def Zm (i p:Nat) (K:Int->M Y):M Y:=bH i p λd=>db .i64 d λv=>K v
noncomputable def mN (i p:Nat) (K:Int->M Y):M Y:=bH i p λd=>db .u8 d λv=>K v
abbrev ah:=List DV
abbrev ai:=Option (Nat×Nat)
abbrev aj:=List UInt8
abbrev ak:=List Int
abbrev al:=List Nat
abbrev an:=Zf->Nat->ah->M ah
