/- A deterministic heap machine beside the model: its values, its heap, what it makes of a function's code. -/
import Derived.Orders
import Derived.KernelRfl
set_option linter.all false
theorem aw:type_of% @decide_eq_true:=@decide_eq_true
theorem aD:type_of% @decide_eq_false:=@decide_eq_false
theorem aO:type_of% @Nat.le_refl:=@Nat.le_refl
theorem aW:type_of% @Bool.and_eq_true:=@Bool.and_eq_true
theorem ba:type_of% @if_neg:=@if_neg
theorem bm:type_of% @Bool.not_false:=@Bool.not_false
theorem bp:type_of% @Bool.not_true:=@Bool.not_true
theorem br:type_of% @Int.toNat_natCast:=@Int.toNat_natCast
theorem bA:type_of% @List.length_append:=@List.length_append
theorem bC:type_of% @decide_eq_true_iff:=@decide_eq_true_iff
theorem bG:type_of% @if_pos:=@if_pos
theorem cg:type_of% @List.getElem?_eq_getElem:=@List.getElem?_eq_getElem
theorem cx:type_of% @List.mem_singleton:=@List.mem_singleton
theorem cE:type_of% @Nat.zero_le:=@Nat.zero_le
theorem cO:type_of% @List.length_cons:=@List.length_cons
theorem cT:type_of% @Nat.mul_one:=@Nat.mul_one
theorem cV:type_of% @List.length_take:=@List.length_take
theorem dx:type_of% @Bool.true_and:=@Bool.true_and
theorem dy:type_of% @Nat.eq_of_beq_eq_true:=@Nat.eq_of_beq_eq_true
theorem dA:type_of% @List.drop_zero:=@List.drop_zero
theorem dH:type_of% @List.take_of_length_le:=@List.take_of_length_le
theorem dW:type_of% @List.mem_cons:=@List.mem_cons
theorem dX:type_of% @beq_eq_false_iff_ne:=@beq_eq_false_iff_ne
theorem dZ:type_of% @List.getD_eq_getElem?_getD:=@List.getD_eq_getElem?_getD
theorem eK:type_of% @List.getElem?_eq_some_iff:=@List.getElem?_eq_some_iff
theorem eW:type_of% @Nat.zero_add:=@Nat.zero_add
theorem fb:type_of% @List.length_drop:=@List.length_drop
theorem fA:type_of% @List.append_assoc:=@List.append_assoc
theorem fB:type_of% @List.map_append:=@List.map_append
theorem fP:type_of% @Bool.false_and:=@Bool.false_and
theorem fQ:type_of% @Option.some.injEq:=@Option.some.injEq
theorem gr:type_of% @Nat.ble_eq_true_of_le:=@Nat.ble_eq_true_of_le
theorem gA:type_of% @List.append_nil:=@List.append_nil
theorem gJ:type_of% @Nat.le_trans:=@Nat.le_trans
theorem gU:type_of% @List.mem_append:=@List.mem_append
theorem gV:type_of% @Nat.add_zero:=@Nat.add_zero
theorem iC:type_of% @List.drop_eq_getElem_cons:=@List.drop_eq_getElem_cons
theorem iK:type_of% @List.length_singleton:=@List.length_singleton
theorem iL:type_of% @List.nil_append:=@List.nil_append
theorem jC:type_of% @Nat.lt_or_ge:=@Nat.lt_or_ge
theorem jP:type_of% @List.getElem_mem:=@List.getElem_mem
theorem kb:type_of% @Array.getElem?_toList:=@Array.getElem?_toList
theorem kd:type_of% @List.drop_drop:=@List.drop_drop
theorem ke:type_of% @List.drop_eq_nil_of_le:=@List.drop_eq_nil_of_le
theorem kJ:type_of% @List.getElem?_set_ne:=@List.getElem?_set_ne
theorem lg:type_of% @Bool.eq_iff_iff:=@Bool.eq_iff_iff
theorem lh:type_of% @List.getElem?_cons_zero:=@List.getElem?_cons_zero
theorem lj:type_of% @Nat.lt_of_lt_of_le:=@Nat.lt_of_lt_of_le
theorem lL:type_of% @Bool.not_eq_true':=@Bool.not_eq_true'
theorem lM:type_of% @if_true:=@if_true
theorem l9:type_of% @Bool.or_eq_true:=@Bool.or_eq_true
theorem mb:type_of% @List.getElem?_append_right:=@List.getElem?_append_right
theorem mc:type_of% @List.getElem?_set_self:=@List.getElem?_set_self
theorem me:type_of% @Option.map_some:=@Option.map_some
theorem mg:type_of% @if_false:=@if_false
theorem mU:type_of% @List.cons_append:=@List.cons_append
theorem mV:type_of% @List.take_succ_eq_append_getElem:=@List.take_succ_eq_append_getElem
theorem mW:type_of% @Nat.min_eq_left:=@Nat.min_eq_left
theorem mX:type_of% @Nat.pow_le_pow_right:=@Nat.pow_le_pow_right
theorem nI:type_of% @Array.length_toList:=@Array.length_toList
theorem oz:type_of% @List.getElem?_append_left:=@List.getElem?_append_left
theorem oA:type_of% @List.take_append_drop:=@List.take_append_drop
theorem oB:type_of% @or_false:=@or_false
theorem pE:type_of% @List.getElem?_cons_succ:=@List.getElem?_cons_succ
theorem pF:type_of% @List.map_cons:=@List.map_cons
theorem pG:type_of% @Nat.blt_eq:=@Nat.blt_eq
theorem pH:type_of% @Nat.le_of_ble_eq_true:=@Nat.le_of_ble_eq_true
theorem qG:type_of% @Array.getD_eq_getD_getElem?:=@Array.getD_eq_getD_getElem?
theorem qH:type_of% @List.ext_getElem?:=@List.ext_getElem?
theorem qI:type_of% @List.length_set:=@List.length_set
theorem qJ:type_of% @List.mem_of_getElem?:=@List.mem_of_getElem?
theorem qK:type_of% @Nat.zero_mul:=@Nat.zero_mul
theorem qL:type_of% @of_decide_eq_true:=@of_decide_eq_true
theorem sa:type_of% @List.all_append:=@List.all_append
theorem sb:type_of% @List.mem_cons_self:=@List.mem_cons_self
theorem sc:type_of% @List.take_length:=@List.take_length
theorem sd:type_of% @beq_iff_eq:=@beq_iff_eq
theorem tg:type_of% @Bool.false_eq_true:=@Bool.false_eq_true
theorem th:type_of% @List.not_mem_nil:=@List.not_mem_nil
theorem tj:type_of% @Nat.add_assoc:=@Nat.add_assoc
theorem tk:type_of% @Nat.add_comm:=@Nat.add_comm
theorem uE:type_of% @List.all_cons:=@List.all_cons
theorem uF:type_of% @List.all_eq_true:=@List.all_eq_true
theorem uG:type_of% @List.length_map:=@List.length_map
theorem uH:type_of% @List.length_replicate:=@List.length_replicate
theorem uI:type_of% @List.nodup_append:=@List.nodup_append
theorem uJ:type_of% @List.range_succ:=@List.range_succ
theorem uK:type_of% @Nat.add_mul:=@Nat.add_mul
theorem wa:type_of% @List.getElem?_take:=@List.getElem?_take
theorem wb:type_of% @List.mem_cons_of_mem:=@List.mem_cons_of_mem
theorem wc:type_of% @List.take_add:=@List.take_add
theorem we:type_of% @Nat.succ_pos:=@Nat.succ_pos
theorem wg:type_of% @decide_eq_false_iff_not:=@decide_eq_false_iff_not
theorem xN:type_of% @List.getElem?_map:=@List.getElem?_map
theorem xO:type_of% @List.mem_map:=@List.mem_map
theorem xP:type_of% @decide_eq_true_eq:=@decide_eq_true_eq
theorem y9:type_of% @Bool.and_true:=@Bool.and_true
theorem zd:type_of% @Bool.false_or:=@Bool.false_or
theorem ze:type_of% @List.drop_of_length_le:=@List.drop_of_length_le
theorem zg:type_of% @List.nodup_cons:=@List.nodup_cons
theorem zi:type_of% @Nat.eq_zero_or_pos:=@Nat.eq_zero_or_pos
theorem zj:type_of% @Nat.not_lt:=@Nat.not_lt
theorem zl:type_of% @Nat.pow_succ:=@Nat.pow_succ
theorem Bg:type_of% @Bool.and_false:=@Bool.and_false
theorem Bh:type_of% @Bool.or_eq_false_iff:=@Bool.or_eq_false_iff
theorem Bi:type_of% @List.drop_left:=@List.drop_left
theorem Bj:type_of% @List.eq_nil_of_length_eq_zero:=@List.eq_nil_of_length_eq_zero
theorem Bk:type_of% @List.foldl_append:=@List.foldl_append
theorem Bl:type_of% @List.getElem?_drop:=@List.getElem?_drop
theorem Bm:type_of% @List.length_eq_zero_iff:=@List.length_eq_zero_iff
theorem Bn:type_of% @Nat.mul_comm:=@Nat.mul_comm
theorem Bo:type_of% @beq_self_eq_true:=@beq_self_eq_true
theorem Dd:type_of% @List.drop_take:=@List.drop_take
theorem De:type_of% @List.flatten_cons:=@List.flatten_cons
theorem Df:type_of% @List.foldl_cons:=@List.foldl_cons
theorem Dg:type_of% @List.getElem?_of_mem:=@List.getElem?_of_mem
theorem Dh:type_of% @List.length_nil:=@List.length_nil
theorem Di:type_of% @List.mem_range:=@List.mem_range
theorem Dj:type_of% @List.take_left:=@List.take_left
theorem Dk:type_of% @List.take_take:=@List.take_take
theorem Dl:type_of% @Nat.beq_refl:=@Nat.beq_refl
theorem Dm:type_of% @Nat.div_le_self:=@Nat.div_le_self
theorem Dn:type_of% @Nat.mul_le_mul_right:=@Nat.mul_le_mul_right
theorem Dp:type_of% @Nat.succ_mul:=@Nat.succ_mul
theorem Dq:type_of% @Option.some.inj:=@Option.some.inj
theorem Dr:type_of% @Prod.mk.injEq:=@Prod.mk.injEq
theorem Ds:type_of% @of_decide_eq_false:=@of_decide_eq_false
theorem FK:type_of% @Bool.cond_false_right:=@Bool.cond_false_right
theorem FL:type_of% @List.cons.inj:=@List.cons.inj
theorem FM:type_of% @List.filter_append:=@List.filter_append
theorem FN:type_of% @List.getElem?_eq_none:=@List.getElem?_eq_none
theorem FO:type_of% @List.getElem_of_mem:=@List.getElem_of_mem
theorem FP:type_of% @Nat.eq_of_testBit_eq:=@Nat.eq_of_testBit_eq
theorem FQ:type_of% @Nat.lt_of_le_of_lt:=@Nat.lt_of_le_of_lt
theorem FR:type_of% @Nat.mul_eq_zero:=@Nat.mul_eq_zero
theorem FT:type_of% @Nat.testBit_lt_two_pow:=@Nat.testBit_lt_two_pow
theorem FU:type_of% @Nat.xor_lt_two_pow:=@Nat.xor_lt_two_pow
theorem FV:type_of% @UInt8.toNat_inj:=@UInt8.toNat_inj
theorem Jj:type_of% @List.flatten_append:=@List.flatten_append
theorem Jk:type_of% @List.getElem?_toArray:=@List.getElem?_toArray
theorem Jl:type_of% @List.length_eq_one_iff:=@List.length_eq_one_iff
theorem Jm:type_of% @List.pairwise_append:=@List.pairwise_append
theorem Jn:type_of% @List.range'_succ:=@List.range'_succ
theorem Jo:type_of% @Nat.ne_of_beq_eq_false:=@Nat.ne_of_beq_eq_false
theorem Jp:type_of% @Nat.pow_lt_pow_right:=@Nat.pow_lt_pow_right
theorem Jq:type_of% @Option.isSome_none:=@Option.isSome_none
theorem Ns:type_of% @Array.getElem?_append_left:=@Array.getElem?_append_left
theorem Nt:type_of% @Array.getElem?_setIfInBounds_self_of_lt:=@Array.getElem?_setIfInBounds_self_of_lt
theorem Nu:type_of% @List.extract_eq_take_drop:=@List.extract_eq_take_drop
theorem Nv:type_of% @List.pairwise_iff_getElem:=@List.pairwise_iff_getElem
theorem ae{α:Sort _}(a b:α):cond true a b=a:=rfl
theorem af{α:Sort _}(a b:α):cond false a b=b:=rfl
namespace Go.Gv
inductive DV where
 |bool (b:Bool)
 |int (k:IntKind) (n:Int)
 |str (s:List UInt8)
 |ptr (a:Option (Nat×Nat))
 |slice (sz:Nat) (a:Option (Nat×Nat)) (len:Nat)
 |agg (cs:List DV)
 |func (g:Nat) (first cap:List DV)
 |nilFunc
 |iface (t:Nat) (v:DV)
 |nilIface
 |nat (n:Nat)
structure bT where
 fK:Bool
 cells:List DV
abbrev St:=List (Option bT)
inductive Out (β:Type) where
 |val (b:β)
 |eV
abbrev M (β:Type):=St->Option (Out β×St)
abbrev Zg:=Nat->List DV->M (List DV)
variable {β:Type}
def fail:M β:=λ_=>none
abbrev bs (l:List UInt8):List UInt8:=l
def St.cells (s:St) (i:Nat):Option (List DV):=
 match s[i]? with
 |some (some b)=>some b.cells
 |_=>none
def St.hY (s:St) (i:Nat):Option (List DV):=
 match s[i]? with
 |some (some ⟨false,cs⟩)=>some cs
 |_=>none
def ov:List DV->List DV->List DV
 |_::cs,d::ds=>d::ov cs ds
 |cs,[]=>cs
 |[],_=>[]
def cq:List DV->Nat->List DV->List DV
 |cs,0,ds=>ov cs ds
 |c::cs,k+1,ds=>c::cq cs k ds
 |[],_+1,_=>[]
def bJ (a:Option (Nat×Nat)) (K:Nat->Nat->M β):M β:=
 match a with
 |some (i,o)=>K i o
 |none=>fail
def bQ (i o n:Nat) (K:List DV->M β):M β:=λs=>
 match s.cells i with
 |some cs=>bif Nat.ble (o+n) cs.length then K ((cs.drop o).take n) s else none
 |none=>none
def bF (i o:Nat) (K:DV->M β):M β:=λs=>
 match s.cells i with
 |some cs=>match cs[o]? with
  |some d=>K d s
  |none=>none
 |none=>none
def eI (i o:Nat) (ds:List DV) (K:M β):M β:=λs=>
 match s.hY i with
 |some cs=>bif Nat.ble (o+ds.length) cs.length then K (s.set i (some ⟨false,cq cs o ds⟩))else none
 |none=>none
def cd (cells:List DV) (K:Nat->M β):M β:=λs=>K s.length (s++[some ⟨false,cells⟩])
def dw (a:Option (Nat×Nat)) (n:Nat) (K:List DV->M β):M β:=
 match a with
 |some (i,o)=>bQ i o n K
 |none=>bif Nat.beq n 0 then K []else fail
def yh (a:Option (Nat×Nat)) (ds:List DV) (K:M β):M β:=
 match a with
 |some (i,o)=>eI i o ds K
 |none=>bif Nat.beq ds.length 0 then K else fail
def cj (sz:Nat) (a:Option (Nat×Nat)) (len:Nat) (ds:List DV) (m lim:Nat) (K:Option (Nat×Nat)->M β):M β:=λs=>
 bif Nat.beq m 0 then K a s else
 bif Nat.ble (len+m) lim then
  match a with
  |none=>bif Nat.beq len 0 then K (some (s.length,0)) (s++[some ⟨false,ds⟩])else none
  |some (i,o)=>match s.hY i with
   |some cs=>bif Nat.ble (o+len*sz) cs.length then K (some (s.length,0)) (s.set i none++[some ⟨false,(cs.drop o).take (len*sz)++ds⟩])else none
   |none=>none
 else none
def aB (b:Bool) (K:M β):M β:=bif b then K else fail
variable {α β:Type}
def cY (m:M α) (K:α->M β):M β:=λs=>
 match m s with
 |some (.val ds,s')=>K ds s'
 |some (.eV,s')=>some (.eV,s')
 |none=>none
def St.Tz (s s':St):Prop:=∃r,s'=s++r
open Classical in
noncomputable def qZ (m:M α) (K:α->M β):M β:=λs=>
 match m s with
 |some (.val ds,s')=>if St.Tz s s' then K ds s' else none
 |_=>none
def uX (m:M α) (K:α->M β):M β:=λs=>
 match m s with
 |some (.val ds,s')=>K ds s'
 |_=>none
def tR (m:M (List DV)) (H:Bool->M β):M β:=λs=>
 match m s with
 |some (.val _,s')=>H false s'
 |some (.eV,s')=>H true s'
 |none=>none
open Classical in
noncomputable def WS (i:Nat) (m:M α):M α:=λs=>
 match m s with
 |some (.val ds,s')=>if s'[i]? =s[i]? then some (.val ds,s')else none
 |r=>r
def yg:M β:=λs=>some (.eV,s)
def jn (f:Nat->M β):M β:=λs=>f s.length s
def kh (b:Nat) (s:St):St:=s.take b++(s.drop b).map (λx=>x.map λk=> { k with fK:=true })
def ay (ds:β):M β:=λs=>some (.val ds,s)
def cu (b:Nat) (ds:β):M β:=λs=>some (.val ds,kh b s)
theorem Zu0 (f:List DV->M β) (g:(List DV->M β)->M β): ∃x:M β,∀f' g',f'=f->g'=g->x=g' f':=by simp
noncomputable def cI (f:List DV->M β) (g:(List DV->M β)->M β):M β:=Classical.choose (Zu0 f g)
theorem Lq (f:List DV->M β) (g:(List DV->M β)->M β):cI f g=g f:=Classical.choose_spec (Zu0 f g) f g rfl rfl
def cW (F:(List DV->M β)->List DV->M β):Nat->List DV->M β
 |0,_=>fail
 |n+1,st=>F (cW F n) st
def sJ (d:DV) (K:Bool->M β):M β:=match d with| .bool b=>K b|_=>fail
def ur:IntKind->IntKind->Bool
 | .i8,.i8| .i16,.i16| .i32,.i32| .i64,.i64| .u8,.u8| .u16,.u16| .u32,.u32| .u64,.u64=>true
 |_,_=>false
def cP (k:IntKind) (d:DV) (K:Int->M β):M β:=match d with| .int k' n=>bif ur k' k then K n else fail|_=>fail
def Aa (d:DV) (K:List UInt8->M β):M β:=match d with| .str s=>K s|_=>fail
def B6 (d:DV) (K:Option (Nat×Nat)->M β):M β:=match d with| .ptr a=>K a|_=>fail
def dB (sz:Nat) (d:DV) (K:Option (Nat×Nat)->Nat->M β):M β:=
 match d with| .slice z a n=>bif Nat.beq z sz||a.isNone then K a n else fail|_=>fail
def SY (d:DV) (K:Nat->List DV->List DV->M β):M β:=match d with| .func g f c=>K g f c|_=>fail
def sI (d:DV) (K:List DV->M β):M β:=match d with| .agg cs=>K cs|_=>fail
def WO (d:DV) (K:Nat->M β):M β:=match d with| .nat n=>K n|_=>fail
def jS (cs:List DV) (K:DV->List DV->M β):M β:=match cs with|d::r=>K d r|[]=>fail
def aJ (cs:List DV) (K:M β):M β:=match cs with|[]=>K|_=>fail
def SX (n:Nat) (cs:List DV) (K:List DV->List DV->M β):M β:=bif Nat.ble n cs.length then K (cs.take n) (cs.drop n)else fail
def ej (cs:List DV) (i:Nat) (K:DV->M β):M β:=match cs[i]? with|some d=>K d|none=>fail
def bu (ds:List DV) (n:Nat) (K:M β):M β:=bif Nat.beq ds.length n then K else fail
def tQ (pn:M β) (d:DV) (t:Nat) (K:DV->M β):M β:=match d with| .iface t' v=>bif Nat.beq t' t then K v else pn| .nilIface=>pn|_=>fail
def sC:List DV->Option (List UInt8)
 |[]=>some []
 | .int .u8 n::r=>(sC r).map (UInt8.ofNat n.toNat:: ·)
 |_=>none
def kq (cs:List DV) (K:List UInt8->M β):M β:=match sC cs with|some l=>K l|none=>fail
def gP (st:List DV) (K:Bool->List DV->M β):M β:=jS st λd r=>sJ d λx=>K x r
def aF (k:IntKind) (st:List DV) (K:Int->List DV->M β):M β:=jS st λd r=>cP k d λx=>K x r
def ep (st:List DV) (K:List UInt8->List DV->M β):M β:=jS st λd r=>Aa d λx=>K x r
def nj (st:List DV) (K:Option (Nat×Nat)->List DV->M β):M β:=jS st λd r=>B6 d λx=>K x r
def bN (sz:Nat) (st:List DV) (K:Option (Nat×Nat)->Nat->List DV->M β):M β:=jS st λd r=>dB sz d λa n=>K a n r
def Lo (st:List DV) (K:Nat->List DV->List DV->List DV->M β):M β:=jS st λd r=>SY d λg f c=>K g f c r
def bj (st:List DV) (K:List DV->List DV->M β):M β:=jS st λd r=>sI d λx=>K x r
def WR (st:List DV) (K:Nat->List DV->M β):M β:=jS st λd r=>WO d λx=>K x r
def WQ (st:List DV) (K:DV->List DV->M β):M β:=jS st K
inductive B where
 |bool|int (k:IntKind)|str|ptr|slice (sz:Nat)|func|any|eM (n:Nat)
inductive Sh where
 |b (x:B)
 |agg (l:List B)
def d1 (x:B) (d:DV) (K:DV->M β):M β:=
 match x with
 | .bool=>sJ d λb=>K (.bool b)
 | .int k=>cP k d λn=>K (.int k n)
 | .str=>Aa d λs=>K (.str s)
 | .ptr=>B6 d λa=>K (.ptr a)
 | .slice sz=>dB sz d λa n=>K (.slice sz a n)
 | .func=>SY d λg f c=>K (.func g f c)
 | .any=>K d
 | .eM _=>fail
def ng:List B->List DV->(List DV->M β)->M β
 |[],cs,K=>aJ cs (K [])
 |[.eM n],cs,K=>bu cs n (K cs)
 | .eM n::r,cs,K=>SX n cs λxs rest=>ng r rest λds=>K (xs++ds)
 |x::r,cs,K=>jS cs λd rest=>d1 x d λd'=>ng r rest λds=>K (d'::ds)
def ym (x:Sh) (d:DV) (K:DV->M β):M β:=
 match x with
 | .b x=>d1 x d K
 | .agg l=>sI d λcs=>ng l cs λds=>K (.agg ds)
def Ai:List Sh->List DV->(List DV->M β)->M β
 |[],cs,K=>aJ cs (K [])
 |x::r,cs,K=>jS cs λd rest=>ym x d λd'=>Ai r rest λds=>K (d'::ds)
def glue:List B->List B
 |[]=>[]
 | .eM n::r=>match glue r with
  | .eM m::r'=> .eM (n+m)::r'
  |r'=> .eM n::r'
 |x::r=>x::glue r
def Lt (P:Program):Nat->TypeId->List B
 |0,_=>[.any]
 |n+1,t=>
  match P.underlying t with
  |some .bool=>[.bool]
  |some (.int k)=>[.int k]
  |some .string=>[.str]
  |some (.pointer _)=>[.ptr]
  |some (.slice e)=>[.slice (P.cellsOf e)]
  |some (.func _ _ _)=>[.func]
  |some (.array m e)=>bif Nat.ble (m*P.cellsOf e) 8 then(List.replicate m (Lt P n e)).flatten else[.eM (m*P.cellsOf e)]
  |some (.struct fs)=>glue (fs.toList.flatMap λf=>Lt P n f.type)
  |_=>[.any]
def Z9 (P:Program) (t:TypeId):Bool:=
 match P.underlying t with
 |some (.struct _)|some (.array _ _)=>true
 |_=>false
def l8 (P:Program) (t:TypeId):Sh:=
 bif Z9 P t then .agg (Lt P 20 t)else
 match Lt P 1 t with
 |[x]=> .b x
 |_=> .b .any
def YM (P:Program) (t:TypeId):Bool×List Sh:=
 match P.underlying t with
 |some (.tuple ts)=>(true,ts.toList.map (l8 P))
 |_=>(false,[l8 P t])
structure bx where
 P:Program
 fn:Nat->Nat
 cov:Nat->Bool
 ty:Nat->Nat
 gl:Nat->Nat
 An:Nat->Bool
 Cd:Nat->List B
 mp:Nat->Bool
def AZ:Value->Option DV
 | .bool b=>some (.bool b)
 | .int k n=>some (.int k n)
 | .string s=>some (.str s.data.toList)
 | .pointer none=>some (.ptr none)
 | .slice none 0 0=>some (.slice 0 none 0)
 | .nilFunc=>some .nilFunc
 | .nilIface=>some .nilIface
 |_=>none
def Hd:List Value->Option (List DV)
 |[]=>some []
 |v::r=>match AZ v,Hd r with
  |some d,some ds=>some (d::ds)
  |_,_=>none
inductive ez where
 |u
 |un
 |v (d:DV)
 |pC (ds:List DV)
 |loc (v n:Nat) (cs:List DV)
 |pl (r v o:Nat)
 |it (v:Nat) (s:List UInt8) (pos:Nat)
structure Env where
 bL:Nat
 l:List (Nat×ez)
def look:List (Nat×ez)->Nat->ez
 |[],_=> .u
 |(k,e)::r,t=>bif Nat.beq k t then e else look r t
def Env.get (E:Env) (t:Nat):ez:=look E.l t
def Env.put (E:Env) (t:Nat) (e:ez):Env:=⟨E.bL,(t,e)::E.l⟩
def Env.eR (E:Env) (t:Option Nat) (e:ez):Env:=match t with|some t=>E.put t e|none=>E
def has:List Nat->Nat->Bool
 |[],_=>false
 |k::r,t=>Nat.beq k t||has r t
def Er:List (Nat×ez)->List Nat->List (Nat×ez)
 |[],_=>[]
 |(k,e)::r,ts=>bif has ts k then Er r ts else(k,e)::Er r ts
def Env.del (E:Env) (ts:List Nat):Env:=⟨E.bL,Er E.l ts⟩
def Env.src (C:bx) (E:Env):Operand->ez
 | .tmp t=>match E.get t with
  | .loc v _ _=> .pl t v 0
  | .it _ _ _=> .u
  |e=>e
 | .const v=>(match AZ v with|some d=> .v d|none=> .u)
 | .global g=>bif C.An g then .v (.ptr (some (C.gl g,0)))else .u
 | .func f=>bif C.cov f then .v (.func (C.fn f) [] [])else .u
def fa (C:bx) (E:Env) (x:Operand) (K:DV->M β):M β:=
 match E.src C x with
 | .v d=>K d
 |_=>fail
def y6 (C:bx) (E:Env):List Operand->(List DV->M β)->M β
 |[],K=>K []
 |x::r,K=>fa C E x λd=>y6 C E r λds=>K (d::ds)
def K9 (E:Env) (r v:Nat) (K:Nat->List DV->M β):M β:=
 match E.get r with
 | .loc v' n cs=>bif Nat.beq v' v then K n cs else fail
 |_=>fail
def Cb (C:bx) (E:Env) (x:Operand) (KL:Nat->Nat->Nat->M β) (KH:Nat->Nat->M β):M β:=
 match E.src C x with
 | .pl r v o=>KL r v o
 | .v (.ptr a)=>bJ a KH
 |_=>fail
def AU (C:bx) (E:Env) (x:Operand) (K:Int->M β):M β:=fa C E x λd=>match d with| .int _ n=>K n|_=>fail
def TB (C:bx) (E:Env) (x:Operand) (K:Bool->M β):M β:=fa C E x λd=>match d with| .bool b=>K b|_=>fail
def Aj:B->DV->DV->Option Bool
 | .bool,.bool a,.bool b=>some (a==b)
 | .int k0,.int k a,.int k' b=>bif ur k0 k&&ur k k' then some (a==b)else none
 | .str,.str a,.str b=>some (a==b)
 |_,_,_=>none
def mA:List B->List DV->List DV->Option Bool
 |[],[],[]=>some true
 |k::ks,a::r,b::r'=>match Aj k a b,mA ks r r' with
  |some x,some y=>some (x&&y)
  |_,_=>none
 |_,_,_=>none
def aao (ag:List B) (xs ys:List DV) (K:Bool->M β):M β:=match mA ag xs ys with|some b=>K b|none=>fail
def LF (u:Option TypeDesc) (ag:List B) (a b:DV) (K:Bool->M β):M β:=
 match a,b with
 | .bool x,.bool y=>(match u with|some .bool=>K (x==y)|_=>fail)
 | .int k x,.int k' y=>bif ur k k' then K (x==y)else fail
 | .str x,.str y=>K (x==y)
 | .ptr x,.ptr none=>(match u with|some (.pointer _)=>K x.isNone|_=>fail)
 | .ptr none,.ptr x=>(match u with|some (.pointer _)=>K x.isNone|_=>fail)
 | .slice _ x _,.slice _ none _=>(match u with|some (.slice _)=>K x.isNone|_=>fail)
 | .slice _ none _,.slice _ x _=>(match u with|some (.slice _)=>K x.isNone|_=>fail)
 | .agg xs,.agg ys=>(match ag with|[]=>fail|k::ks=>(match mA (k::ks) xs ys with|some b=>K b|none=>fail))
 |_,_=>fail
def ar (n:Int):Int:=IntKind.i64.wrap n
def bits (op:BinOp) (k:IntKind) (x y:Int):Int:=
 let a:=BitVec.ofInt k.bits x
 let b:=BitVec.ofInt k.bits y
 match op with
 | .and=>k.wrap (a&&& b).toNat
 | .or=>k.wrap (a|||b).toNat
 | .xor=>k.wrap (a^^^b).toNat
 |_=>k.wrap (a&&& ~~~b).toNat
def strLt:List UInt8->List UInt8->Bool:=Op.bytesLess
def WZ (u:Option TypeDesc) (ag:List B) (op:BinOp) (a b:DV) (K:DV->M β):M β:=
 match op with
 | .eql=>LF u ag a b λr=>K (.bool r)
 | .neq=>LF u ag a b λr=>K (.bool !r)
 | .shl=>match a,b with
  | .int k x,.int _ y=>aB (decide (0<=y)) (K (.int k (k.wrap (x*2^(min y.toNat k.bits)))))
  |_,_=>fail
 | .shr=>match a,b with
  | .int k x,.int _ y=>aB (decide (0<=y)) (K (.int k (x.fdiv (2^(min y.toNat k.bits)))))
  |_,_=>fail
 |op=>match a,b with
  | .int k x,.int k' y=>bif ur k k' then
    match op with
    | .add=>K (.int k (k.wrap (x+y)))
    | .sub=>K (.int k (k.wrap (x-y)))
    | .mul=>K (.int k (k.wrap (x*y)))
    | .quo=>aB (!(y==0)) (K (.int k (k.wrap (x.tdiv y))))
    | .rem=>aB (!(y==0)) (K (.int k (x.tmod y)))
    | .and| .or| .xor| .andNot=>K (.int k (bits op k x y))
    | .lss=>K (.bool (decide (x<y)))
    | .leq=>K (.bool (decide (x<=y)))
    | .gtr=>K (.bool (decide (x>y)))
    | .geq=>K (.bool (decide (x>=y)))
    |_=>fail
   else fail
  | .str x,.str y=>
   match op with
   | .add=>aB (Nat.ble (x.length+y.length) 4611686018427387904) (K (.str (x++y)))
   | .lss=>K (.bool (strLt x y))
   | .leq=>K (.bool (strLt x y||x==y))
   | .gtr=>K (.bool !(strLt x y||x==y))
   | .geq=>K (.bool !(strLt x y))
   |_=>fail
  |_,_=>fail
def unK (op:UnOp) (a:DV) (K:DV->M β):M β:=
 match op,a with
 | .not,.bool b=>K (.bool !b)
 | .neg,.int k n=>K (.int k (k.wrap (0-n)))
 |_,_=>fail
def aP (i:Int) (n:Nat):Bool:=decide (0<=i)&&decide (i<n)
def ZQ (s:List UInt8) (i:Int):Int:=((s.getD i.toNat 0).toNat:Int)
def ZW (s:List UInt8):List DV:=s.map λb=> .int .u8 b.toNat
def enc (n:Int):List UInt8:=(Utf8.encode n).data.toList
def dec (s:List UInt8) (i:Nat):Nat×Nat:=
 let at' (k:Nat):Nat:=(s.getD (i+k) 0).toNat
 let cont (k:Nat):Bool:=decide (i+k<s.length)&&at' k/64==2
 let b0:=at' 0
 if b0<0x80 then(b0,1)
 else if b0/32==6&&cont 1 then
  let c:=(b0%32)*64+at' 1%64
  if c>=0x80 then(c,2)else(Utf8.runeError,1)
 else if b0/16==14&&cont 1&&cont 2 then
  let c:=(b0%16)*4096+(at' 1%64)*64+at' 2%64
  if c>=0x800&&Utf8.valid c then(c,3)else(Utf8.runeError,1)
 else if b0/8==30&&cont 1&&cont 2&&cont 3 then
  let c:=(b0%8)*262144+(at' 1%64)*4096+(at' 2%64)*64+at' 3%64
  if c>=0x10000&&Utf8.valid c then(c,4)else(Utf8.runeError,1)
 else(Utf8.runeError,1)
def BX (s:List UInt8) (i:Nat):Int:=((dec s i).1:Int)
def uy (s:List UInt8) (i:Nat):Nat:=(dec s i).2
def hZ (n:Nat) (z:List DV):List DV:=(List.replicate n z).flatten
def wB (P:Program) (t:TypeId):Option TypeId:=match P.underlying t with|some (.slice e)=>some e|_=>none
def KR (P:Program) (t:TypeId):Nat:=match P.info? t with|some i=>i.bytes|none=>0
def AW (P:Program) (e:TypeId):Nat:=70368744177664/(KR P e)
def mn (P:Program) (t:TypeId):Option (List DV):=match P.info? t with|some i=>(match i.zero with|some z=>Hd z.cells.toList|none=>none)|none=>none
def one:DV->Bool
 | .agg _=>false
 |_=>true
def qC (P:Program) (t:TypeId) (K:M β):M β:=match P.underlying t with|some _=>K|none=>fail
def K7 (P:Program) (t:TypeId) (d:DV) (K:List DV->M β):M β:=
 qC P t (bif Z9 P t then(match d with| .agg cs=>bu cs (P.cellsOf t) (K cs)|_=>fail)
  else bif Nat.beq (P.cellsOf t) 1 then aB (one d) (K [d])else fail)
def xH (n m:Nat) (cs:List DV) (p:Nat) (ds:List DV):List DV:=bif Nat.beq m n&&Nat.beq p 0 then ds else cq cs p ds
def AV (E:Env) (C:bx) (N:Nat) (place:Nat->Option (Nat×Nat)):List (Nat×Operand)->List DV->(List DV->M β)->M β
 |[],cs,K=>K cs
 |(i,x)::r,cs,K=>match place i with
  |none=>fail
  |some (o,n)=>bif Nat.ble (o+n) N then fa C E x λd=>
   match d with
   | .agg ds=>bu ds n (AV E C N place r (xH N n cs o ds) K)
   |d=>bif Nat.beq n 1 then aB (one d) (AV E C N place r (cq cs o [d]) K)else fail
   else fail
def Sr (P:Program) (t:TypeId):Nat->Option (Nat×Nat):=
 match P.underlying t with
 |some (.struct fs)=>λi=>match fs[i]? with|some f=>some (f.offset,P.cellsOf f.type)|none=>none
 |some (.array _ e)=>λi=>some (i*P.cellsOf e,P.cellsOf e)
 |_=>λ_=>none
def Zqx (P:Program) (t:TypeId):Bool:=
 match P.underlying t with
 |some (.struct fs)=>fs.toList.all λf=>(P.info? f.type).isSome
 |some (.array _ e)=>(P.info? e).isSome
 |_=>false
def K5 (pr:List Nat) (o:Oper) (n:Nat) (cells:List DV) (E:Env) (K:Env->M β):M β:=
 match o.dst with
 |some t=>bif has pr t then K ⟨E.bL+1,(t,.loc E.bL n cells)::E.l⟩else cd cells λi=>K (E.put t (.v (.ptr (some (i,0)))))
 |none=>fail
def GZ (C:bx) (E:Env) (len:Nat) (lo hi:Option Operand) (K:Nat->Nat->M β):M β:=
 let low (h:Nat):M β:=match lo with
  |none=>K 0 h
  |some x=>AU C E x λl=>aB (decide (0<=l)&&decide (l<=h)) (K l.toNat h)
 match hi with
 |none=>low len
 |some x=>AU C E x λh=>aB (decide (0<=h)&&decide (h<=len)) (low h.toNat)
def Eo (lo hi:Bool) (s:List UInt8) (l h:Nat):List UInt8:=
 bif hi then(bif lo then(s.take h).drop l else s.take h)else(bif lo then s.drop l else s)
def dj (lo:Bool) (a:Option (Nat×Nat)) (k:Nat):Option (Nat×Nat):=bif lo then(match a with|some (i,o)=>some (i,k+o)|none=>none)else a
def Hp (lo:Bool) (l h:Nat):Nat:=bif lo then h-l else h
def part (n:Nat) (cs:List DV) (p m:Nat):List DV:=bif Nat.beq m n&&Nat.beq p 0 then cs else(cs.drop p).take m
def rS (pr:List Nat):List Oper->Nat->Nat->Option Nat
 |_,0,_=>none
 |ops,n+1,t=>bif has pr t then some t else
  match ops.find? λo=>match o.dst with|some d=>Nat.beq d t|none=>false with
  |some o=>match o.op with
   | .fieldAddr _ (.tmp u) _| .indexAddr _ (.tmp u) _| .move (.tmp u)| .nilCheck (.tmp u)=>rS pr ops n u
   |_=>none
  |none=>none
def xA (pr:List Nat) (ops:List Oper):List Oper->List Nat
 |[]=>[]
 |o::r=>
  let m:=xA pr ops r
  let m:=match o.dst with|some d=>d::m|none=>m
  match o.op with
  | .store _ (.tmp a) _=>match rS pr ops 12 a with|some t=>t::m|none=>m
  | .next (.tmp t) _=>t::m
  |_=>m
def lI (pr:List Nat):Code->List Nat
 | .region _ ops _=>xA pr ops.toList ops.toList
 | .seq a b| .cond _ a b=>lI pr a++lI pr b
 | .block _ b| .loop b| .scope b=>lI pr b
 |_=>[]
inductive ll where
 |pure|hp|wr|call|vT (r:Nat)|oy (r:Nat)
 |lp (a:Nat)|ap (bs:List Nat)
inductive Md where
 |s
 |d (k:ll) (x:Nat)
def Md.loc:Md->Nat->Bool
 | .s,_=>true
 | .d (.vT q) _,r=>Nat.beq q r
 | .d (.oy q) _,r=>Nat.beq q r
 |_,_=>false
def Md.LG:Md->Bool
 | .s=>true
 | .d (.vT _) _=>false
 | .d (.oy _) _=>false
 |_=>true
def Md.x:Md->Nat
 | .s=>0
 | .d _ x=>x
def cls (P:Program) (pr:List Nat) (ops:List Oper) (o:Oper):ll:=
 match o.op with
 | .load _ (.tmp a)=>match rS pr ops 12 a with|some r=> .vT r|none=> .lp a
 | .load _ _=> .hp
 | .store _ (.tmp a) _=>match rS pr ops 12 a with|some r=> .oy r|none=> .ap []
 | .store .. => .wr
 | .alloc _| .box _ _| .buildSlice .. | .makeSlice .. | .convert .. | .range .. => .hp
 | .slice t .. =>match P.underlying t with|some (.array _ _)=> .hp|_=> .pure
 | .move _| .assign _| .pick .. | .build .. | .nilCheck _| .binOp .. | .unOp .. | .fieldAddr .. | .field .. | .indexAddr .. | .index .. | .extract .. | .makeInterface .. | .makeFunc .. => .pure
 | .call q=>match q.callee with
  | .builtin .len| .builtin .min| .builtin .max=> .pure
  | .builtin .append=> .ap []
  | .value _=>bif has pr 1000000 then .ap []else .call
  |_=> .wr
 | .next (.tmp t) _=> .oy t
 |_=> .wr
section
variable (C:bx) (E:Env) (o:Oper) (K:Env->M β)
def cn (d:DV):M β:=K (E.eR o.dst (.v d))
def yX (e:ez):M β:=K (E.eR o.dst e)
def Ta (b y z:Operand):M β:=TB C E b λb=>bif b then yX E o K (E.src C y)else yX E o K (E.src C z)
def SA (pr:List Nat) (t:TypeId):M β:=
 match mn C.P t with
 |some z=>bif Nat.beq z.length (C.P.cellsOf t)then K5 pr o (C.P.cellsOf t) z E K else fail
 |none=>fail
def VY (pr:List Nat) (t:TypeId) (y:Operand):M β:=fa C E y λd=>K7 C.P t d λcs=>K5 pr o (C.P.cellsOf t) cs E K
def Sx (t:TypeId) (ps:Array (Nat×Operand)):M β:=
 match mn C.P t with
 |some z=>bif Zqx C.P t then AV E C z.length (Sr C.P t) ps.toList z λcs=>cn E o K (.agg cs)else fail
 |none=>fail
def PQ (t:TypeId) (len:Nat) (ps:Array (Nat×Operand)):M β:=
 match wB C.P t with
 |some e=>match mn C.P e with
  |some z=>bif Nat.ble (len*C.P.cellsOf e) 100000&&Nat.beq z.length (C.P.cellsOf e)then
    AV E C (len*C.P.cellsOf e) (λi=>some (i*C.P.cellsOf e,C.P.cellsOf e)) ps.toList (hZ len z) λcs=>
     cd cs λi=>cn E o K (.slice (C.P.cellsOf e) (some (i,0)) len)
    else fail
  |none=>fail
 |none=>fail
def Lh (md:Md) (t:TypeId) (a:Operand):M β:=
 qC C.P t (Cb C E a
  (λr v p=>bif md.loc r then K9 E r v λn cs=>
   match l8 C.P t with
   | .b y=>ej cs p λd=>d1 y d (cn E o K)
   | .agg _=>aB (Nat.ble (p+C.P.cellsOf t) n) (cn E o K (.agg (part n cs p (C.P.cellsOf t))))
   else fail)
  (λi p=>bif md.LG then
   match l8 C.P t with
   | .b y=>bF i p λd=>d1 y d (cn E o K)
   | .agg l=>bQ i p (C.P.cellsOf t) λcs=>ng l cs λds=>cn E o K (.agg ds)
   else fail))
def Sv (md:Md) (ms:List Nat) (t:TypeId) (a y:Operand):M β:=
 fa C E y λd=>K7 C.P t d λds=>Cb C E a
  (λr v p=>bif has ms r&&md.loc r then K9 E r v λn cs=>aB (Nat.ble (p+C.P.cellsOf t) n) (K (E.put r (.loc v n (xH n (C.P.cellsOf t) cs p ds))))else fail)
  (λi p=>bif md.LG then eI i p ds (K E)else fail)
def Ra (y:Operand):M β:=Cb C E y (λr v p=>yX E o K (.pl r v p)) (λi p=>cn E o K (.ptr (some (i,p))))
def VX (op:BinOp) (t:TypeId) (y z:Operand):M β:=fa C E y λa=>fa C E z λb=>WZ (C.P.underlying t) (C.Cd t) op a b (cn E o K)
def V0 (op:UnOp) (y:Operand):M β:=fa C E y λa=>unK op a (cn E o K)
def MQ (P:Program) (e:TypeId):Bool:=match P.underlying e with|some (.int .u8)=>true|_=>false
def QO (s t:TypeId) (y:Operand):M β:=
 qC C.P s (match C.P.underlying t with
  |some (.int k)=>fa C E y λd=>(match d with| .int _ n=>cn E o K (.int k (k.wrap n))|_=>fail)
  |some .string=>(match C.P.underlying s with
   |some (.int _)=>fa C E y λd=>(match d with| .int _ n=>cn E o K (.str (enc n))|_=>fail)
   |some .string=>fa C E y λd=>(match d with| .str l=>cn E o K (.str l)|_=>fail)
   |some (.slice e)=>bif MQ C.P e then fa C E y λd=>(match d with
    | .slice z a n=>bif Nat.beq z 1||a.isNone then dw a n λcs=>kq cs λl=>cn E o K (.str l)else fail
    |_=>fail)else fail
   |_=>fail)
  |some (.slice e)=>bif MQ C.P e then fa C E y λd=>(match d with
    | .str l=>cd (ZW l) λi=>cn E o K (.slice 1 (some (i,0)) l.length)
    |_=>fail)else fail
  |_=>fail)
def SD (t:TypeId) (y:Operand):M β:=
 match C.P.underlying t with
 |some (.interface _)=>fail
 |some _=>fa C E y λd=>cn E o K (.iface (C.ty t) d)
 |none=>fail
def Tc (f:Fn) (first cap:Array Operand):M β:=
 match f with
 | .func f=>bif C.cov f then y6 C E first.toList λfs=>y6 C E cap.toList λcs=>cn E o K (.func (C.fn f) fs cs)else fail
 |_=>fail
def Qz (t:TypeId) (l c:Operand):M β:=
 match wB C.P t with
 |some e=>match mn C.P e with
  |some z=>bif Nat.beq z.length (C.P.cellsOf e)then AU C E l λn=>AU C E c λm=>
    aB (decide (0<=n)&&decide (n<=m)&&decide (m<=AW C.P e)) (cd (hZ n.toNat z) λi=>cn E o K (.slice (C.P.cellsOf e) (some (i,0)) n.toNat))else fail
  |none=>fail
 |none=>fail
def SE (t:TypeId) (y:Operand) (lo hi:Option Operand):M β:=
 match C.P.underlying t with
 |some .string=>fa C E y λd=>(match d with
  | .str s=>GZ C E s.length lo hi λl h=>cn E o K (.str (Eo lo.isSome hi.isSome s l h))
  |_=>fail)
 |some (.slice e)=>qC C.P e (fa C E y λd=>(match d with
  | .slice z a n=>bif Nat.beq z (C.P.cellsOf e)||a.isNone then GZ C E n lo hi λl h=>cn E o K (.slice z (dj lo.isSome a (l*C.P.cellsOf e)) (Hp lo.isSome l h))else fail
  |_=>fail))
 |some (.array m e)=>qC C.P e (fa C E y λd=>(match d with
  | .ptr a=>bJ a λi p=>bQ i p (m*C.P.cellsOf e) λ_=>GZ C E m lo hi λl h=>cn E o K (.slice (C.P.cellsOf e) (dj lo.isSome (some (i,p)) (l*C.P.cellsOf e)) (Hp lo.isSome l h))
  |_=>fail))
 |_=>fail
def JT (t:TypeId) (y:Operand) (f:Nat):M β:=
 match C.P.underlying t with
 |some (.struct fs)=>(match fs[f]? with
  |some f=>bif Nat.beq (C.P.cellsOf f.type) 0 then fail else Cb C E y (λr v p=>yX E o K (.pl r v (p+f.offset))) (λi p=>cn E o K (.ptr (some (i,p+f.offset))))
  |none=>fail)
 |_=>fail
def Sq (t:TypeId) (y:Operand) (f:Nat):M β:=
 match C.P.underlying t with
 |some (.struct fs)=>(match fs[f]? with
  |some f=>qC C.P f.type (fa C E y λd=>(match d with
   | .agg cs=>bif Z9 C.P f.type then cn E o K (.agg ((cs.drop f.offset).take (C.P.cellsOf f.type)))else ej cs f.offset λd=>ym (l8 C.P f.type) d (cn E o K)
   |_=>fail))
  |none=>fail)
 |_=>fail
def Qw (t:TypeId) (y i:Operand):M β:=
 AU C E i λn=>match C.P.underlying t with
 |some (.slice e)=>qC C.P e (fa C E y λd=>(match d with
  | .slice z a m=>bif Nat.beq z (C.P.cellsOf e)||a.isNone then bJ a λj p=>aB (aP n m) (cn E o K (.ptr (some (j,n.toNat*C.P.cellsOf e+p))))else fail
  |_=>fail))
 |some (.array m e)=>qC C.P e (Cb C E y
  (λr v p=>aB (aP n m) (yX E o K (.pl r v (n.toNat*C.P.cellsOf e+p))))
  (λj p=>aB (aP n m) (cn E o K (.ptr (some (j,n.toNat*C.P.cellsOf e+p))))))
 |_=>fail
def Sn (t:TypeId) (y i:Operand):M β:=
 AU C E i λn=>fa C E y λd=>match C.P.underlying t,d with
 |some .string,.str s=>aB (aP n s.length) (cn E o K (.int .u8 (ZQ s n)))
 |some (.array m e),.agg cs=>qC C.P e (aB (aP n m) (bif Z9 C.P e then cn E o K (.agg ((cs.drop (n.toNat*C.P.cellsOf e)).take (C.P.cellsOf e)))else ej cs (n.toNat*C.P.cellsOf e) λd=>ym (l8 C.P e) d (cn E o K)))
 |_,_=>fail
def SI (t:TypeId) (y:Operand):M β:=
 match C.P.underlying t with
 |some .string=>fa C E y λd=>match d,o.dst with
  | .str s,some t=>K ⟨E.bL+1,(t,.it E.bL s 0)::E.l⟩
  |_,_=>fail
 |_=>fail
def Te (ms:List Nat) (t:Nat):M β:=
 match E.get t,o.dst with
 | .it v s p,some d=>bif Nat.beq d t|| !has ms t then fail else
   bif Nat.blt p s.length then K ((E.put t (.it v s (p+uy s p))).put d (.pC [.bool true,.int .i64 p,.int .i32 (BX s p)]))
   else K (E.put d (.pC [.bool false]))
 |_,_=>fail
def IV (md:Md):M β:=bif Nat.beq md.x 0 then yg else fail
def RU (md:Md) (t:TypeId) (y:Operand):M β:=
 match C.P.underlying t with
 |some (.interface _)=>fail
 |some _=>fa C E y λd=>tQ (IV md) d (C.ty t) λd=>ym (l8 C.P t) d (cn E o K)
 |none=>fail
def RB (t i:Nat):M β:=
 match E.get t with
 | .pC ds=>(match ds[i]? with|some d=>cn E o K d|none=>fail)
 |_=>fail
def SR (md:Md) (y:Operand):M β:=fa C E y λd=>match d with| .iface _ _=>IV md|_=>fail
noncomputable def LA (md:Md) (m:M (List DV)) (K:List DV->M β):M β:=
 match md.x with
 |0=>cY m K
 |1=>uX m K
 |_=>qZ m K
def Md.bs:Md->List Nat
 | .d (.ap bs) _=>bs
 |_=>[]
noncomputable def En (E:Env):List Nat->M (List DV)->M (List DV)
 |[],m=>m
 |b::r,m=>match E.get b with
  | .v (.ptr (some (i,_)))=>WS i (En E r m)
  |_=>fail
noncomputable def S8 (md:Md) (c:Zg) (f:Operand) (as:Array Operand):M β:=
 fa C E f λfv=>y6 C E as.toList λas=>match fv with
 | .func g fs cs=>match YM C.P o.type with
  |(true,I7)=>bif Nat.beq I7.length 1 then fail else LA md (En E md.bs (c g (fs++as++cs))) λds=>Ai I7 ds λds=>yX E o K (.pC ds)
  |(false,I7)=>LA md (En E md.bs (c g (fs++as++cs))) λds=>Ai I7 ds λds=>match ds with|[d]=>cn E o K d|_=>fail
 |_=>fail
def VZ (ts:Array TypeId) (as:Array Operand):M β:=
 match as.toList,ts[0]? with
 |[y],some t=>(match C.P.underlying t with
  |some (.array m _)=>cn E o K (.int .i64 m)
  |some .string=>fa C E y λd=>(match d with| .str s=>cn E o K (.int .i64 s.length)|_=>fail)
  |some (.slice _)=>fa C E y λd=>(match d with| .slice _ _ n=>cn E o K (.int .i64 n)|_=>fail)
  |_=>fail)
 |_,_=>fail
def VU (P:Program) (ts:Array TypeId) (K:M β):M β:=
 match ts[1]? with
 |none=>K
 |some t=>match P.underlying t with
  |some (.int _)=>fail
  |some _=>K
  |none=>fail
def RY (ts:Array TypeId) (as:Array Operand):M β:=
 match as.toList,ts[0]? with
 |[y,z],some t=>(match wB C.P t with
  |some e=>qC C.P e (VU C.P ts (match mn C.P e with
   |some zv=>bif !Nat.beq zv.length (C.P.cellsOf e)then fail else fa C E y λa=>fa C E z λb=>(match a,b with
    | .slice w p n,.slice w' p' m=>bif (Nat.beq w (C.P.cellsOf e)||p.isNone)&&(Nat.beq w' (C.P.cellsOf e)||p'.isNone)then
      dw p' (m*C.P.cellsOf e) λds=>cj (C.P.cellsOf e) p n ds m (AW C.P e) λFw=>cn E o K (.slice (C.P.cellsOf e) Fw (n+m))else fail
    | .slice w p n,.str l=>bif (Nat.beq w 1||p.isNone)&&Nat.beq (C.P.cellsOf e) 1 then cj 1 p n (ZW l) l.length (AW C.P e) λFw=>cn E o K (.slice 1 Fw (n+l.length))else fail
    |_,_=>fail)
   |none=>fail))
  |none=>fail)
 |_,_=>fail
def Tf (ts:Array TypeId) (as:Array Operand):M β:=
 match as.toList,ts[0]? with
 |[y,z],some t=>(match wB C.P t with
  |some e=>qC C.P e (fa C E y λa=>fa C E z λb=>(match a,b with
   | .slice w p n,.slice w' p' m=>bif (Nat.beq w (C.P.cellsOf e)||p.isNone)&&(Nat.beq w' (C.P.cellsOf e)||p'.isNone)then dw p' (min m n*C.P.cellsOf e) λds=>yh p ds (cn E o K (.int .i64 (min m n)))else fail
   | .slice w p n,.str l=>bif (Nat.beq w 1||p.isNone)&&Nat.beq (C.P.cellsOf e) 1 then yh p (ZW (l.take n)) (cn E o K (.int .i64 (min l.length n)))else fail
   |_,_=>fail))
  |none=>fail)
 |_,_=>fail
def M0 (mx:Bool) (as:Array Operand):M β:=
 match as.toList with
 |[y,z]=>fa C E y λa=>fa C E z λb=>(match a,b with
  | .int k a,.int k' b=>bif ur k k' then cn E o K (.int k (bif mx then(if a<b then b else a)else(if b<a then b else a)))else fail
  |_,_=>fail)
 |_=>fail
def Sc (ts:Array TypeId) (as:Array Operand):M β:=
 match as.toList,ts[0]? with
 |[y],some t=>(match wB C.P t with
  |some e=>fa C E y λa=>(match a,mn C.P e with
   | .slice w p n,some z=>bif (Nat.beq w (C.P.cellsOf e)||p.isNone)&&Nat.beq z.length (C.P.cellsOf e)then yh p (hZ n z) (yX E o K (.pC []))else fail
   |_,_=>fail)
  |none=>fail)
 |_,_=>fail
end
def apart (p:Option (Nat×Nat)) (i:Nat):Bool:=match p with|some (j,_)=> !Nat.beq i j|none=>true
def Hm (E:Env) (p:Option (Nat×Nat)):List Nat->M β->M β
 |[],K=>K
 |b::r,K=>match E.get b with
  | .v (.ptr (some (i,_)))=>aB (apart p i) (Hm E p r K)
  |_=>fail
def Tp (C:bx) (E:Env) (bs:List Nat) (as:Array Operand) (X:M β):M β:=
 match bs with
 |[]=>X
 |b::r=>match as.toList with
  |y::_=>fa C E y λa=>(match a with| .slice _ p _=>Hm E p (b::r) X|_=>fail)
  |_=>fail
def Wn (C:bx) (E:Env) (bs:List Nat) (a:Operand) (X:M β):M β:=
 match bs with
 |[]=>X
 |b::r=>match E.src C a with
  | .v (.ptr p)=>Hm E p (b::r) X
  |_=>fail
noncomputable def fj (C:bx) (pr ms:List Nat) (md:Md) (c:Zg) (o:Oper) (E:Env) (K:Env->M β):M β:=
 match o.op with
 | .move y| .assign y=>yX E o K (E.src C y)
 | .pick b y z=>Ta C E o K b y z
 | .alloc t=>SA C E o K pr t
 | .box t y=>VY C E o K pr t y
 | .build t ps=>Sx C E o K t ps
 | .buildSlice t len ps=>PQ C E o K t len ps
 | .load t a=>Lh C E o K md t a
 | .store t a y=>bif o.dst.isNone then Wn C E md.bs a (Sv C E K md ms t a y)else fail
 | .nilCheck y=>Ra C E o K y
 | .binOp op t y z _=>VX C E o K op t y z
 | .unOp op _ y=>V0 C E o K op y
 | .convert s t y=>QO C E o K s t y
 | .makeInterface t y=>SD C E o K t y
 | .makeFunc f first cap=>Tc C E o K f first cap
 | .makeSlice t l c=>Qz C E o K t l c
 | .slice t y lo hi none=>SE C E o K t y lo hi
 | .fieldAddr t y f=>JT C E o K t y f
 | .field t y f=>Sq C E o K t y f
 | .indexAddr t y i=>Qw C E o K t y i
 | .index t y i=>Sn C E o K t y i
 | .range t y=>SI C E o K t y
 | .next (.tmp t) true=>Te E o K ms t
 | .typeAssert y _ t false=>RU C E o K md t y
 | .extract (.tmp t) i=>RB E o K t i
 | .panic y=>SR C E md y
 | .call q=>match q.callee with
  | .value f=>S8 C E o K md c f q.args
  | .builtin .len=>VZ C E o K q.argTypes q.args
  | .builtin .append=>Tp C E md.bs q.args (RY C E o K q.argTypes q.args)
  | .builtin .copy=>Tf C E o K q.argTypes q.args
  | .builtin .min=>M0 C E o K false q.args
  | .builtin .max=>M0 C E o K true q.args
  | .builtin .clear=>Sc C E o K q.argTypes q.args
  |_=>fail
 |_=>fail
def yW (C:bx) (E:Env) (x:Operand) (K:Nat->Nat->M β):M β:=match E.src C x with
 | .v (.ptr (some (i,p)))=>K i p
 |_=>fail
def wO (i p:Nat) (K:IntKind->Int->M β):M β:=bF i p λd=>match d with
 | .int k n=>K k n
 |_=>fail
def gT (i p:Nat) (k:IntKind) (n:Int) (K:M β):M β:=bF i p λd=>match d with
 | .int k' n'=>bif ur k k'&&(n==n')then K else fail
 |_=>fail
def gC:List (Oper×Md)->List Nat
 |[]=>[]
 |(o,_)::r=>match o.dst with|some d=>d::gC r|none=>gC r
def BP (r:Nat):List (Oper×Md)->List (Oper×Md)->Option (List (Oper×Md)×Oper×List (Oper×Md))
 |_,[]=>none
 |acc,(o,x)::rest=>match o.op with
  | .pick (.tmp t) _ _=>bif Nat.beq t r then some (acc.reverse,o,rest)else BP r ((o,x)::acc) rest
  |_=>BP r ((o,x)::acc) rest
def LJ:List (Nat×Bool)->Nat×Bool->Bool
 |[],_=>false
 |(k,b)::r,g=>(Nat.beq k g.1&&(b==g.2))||LJ r g
def LK (act:List (Nat×Bool)):Option (Nat×Bool)->Bool
 |none=>true
 |some g=>LJ act g
def Cf (pr:List Nat) (dst:Nat->Option Nat) (j:Nat) (w:Bool) (r:Nat):List Nat->List (Oper×Md)->Bool
 |_,[]=>true
 |Wm,(o,_)::rest=>
  (match o.op with
   | .store .. | .next .. | .range .. =>false
   | .alloc _| .box _ _=>(match o.dst with|some d=> !has pr d|none=>false)
   |_=>true)&&
  (match o.guard with
   |none=>false
   |some (j',w')=>(Nat.beq j' j&&(w'==w))||(match dst j' with|some d=>has Wm d|none=>false))&&
  (match o.dst with
   |some d=> !Nat.beq d r&&Cf pr dst j w r (d::Wm) rest
   |none=>Cf pr dst j w r Wm rest)
noncomputable def sD (C:bx) (pr ms:List Nat) (c:Zg) (dst:Nat->Option Nat):Nat->List (Oper×Md)->List (Nat×Bool)->Env->(Env->M β)->M β
 |_,[],_,E,K=>K E
 |0,_::_,_,_,_=>fail
 |n+1,(o,x)::rest,act,E,K=>
  bif LK act o.guard then fj C pr ms x c o E λE'=>sD C pr ms c dst n rest act E' K
  else match o.guard with
   |none=>fail
   |some (j,w)=>match dst j with
    |none=>fail
    |some r=>match E.get r,BP r [] ((o,x)::rest)with
     | .v (.bool b),some (eu,pk,nC)=>match pk.op,pk.dst with
      | .pick _ y z,some t=>
       bif LK act pk.guard&&Cf pr dst j w r [] eu then
        cI (λst=>jS st λd st=>sJ d λv=>aJ st (sD C pr ms c dst n nC act ((E.del (gC eu)).put t (.v (.bool v))) K))
         λjk=>
          let yes:M β:=sD C pr ms c dst n eu ((j,w)::act) (E.put r (.v (.bool w))) λE1=>fa C E1 (bif w then y else z) λd=>jk [d]
          let no:M β:=fa C ((E.del (gC eu)).put r (.v (.bool !w))) (bif w then z else y) λd=>jk [d]
          bif w then(bif b then yes else no)else(bif b then no else yes)
       else fail
      |_,_=>fail
     |_,_=>fail
def yk:ll->ll->Bool
 | .pure,_|_,.pure=>false
 | .oy r,.vT q| .vT r,.oy q| .oy r,.oy q=>Nat.beq r q
 | .vT _,_|_,.vT _| .oy _,_|_,.oy _=>false
 | .ap bs,.lp b| .lp b,.ap bs=> !has bs b
 | .wr,_|_,.wr| .ap _,_|_,.ap _=>true
 | .call,.call=>true
 |_,_=>false
def Td:ll->ll->Bool
 | .ap _,.lp _=>true
 |k,k'=>yk k k'
structure gk where
 bf:Nat
 k:ll
 dst:Option Nat
 lk:Nat
def Ek (o:Oper) (acc:List Nat):Nat:=o.after.toList.foldl (λm e=>bif Region.binds .any e then m|||2^e.on|||acc.getD e.on 0 else m) 0
def qu (pr:List Nat) (ops:List Oper) (o:Oper):Nat:=
 let m:=o.op.operands.toList.foldl (λm x=>match x with| .tmp t=>m|||2^t|_=>m) 0
 let m:=match o.guard with
  |some (j,_)=>(match ops[j]? with|some g=>(match g.dst with|some t=>m|||2^t|none=>m)|none=>m)
  |none=>m
 match o.op with
 | .load _ (.tmp a)=>(match rS pr ops 12 a with|some r=>m|||2^r|none=>m)
 | .store _ (.tmp a) _=>(match rS pr ops 12 a with|some r=>m|||2^r|none=>m)
 |_=>m
def Hk (m:Nat):Nat->List Oper->List Nat
 |_,[]=>[]
 |j,o::r=>match o.op with
  | .load _ (.tmp b)=>bif m.testBit j then Hk m (j+1) r else b::Hk m (j+1) r
  |_=>Hk m (j+1) r
def xz (b:Nat) (o:Oper):Bool:=match o.op with
 | .load _ (.tmp a)=>Nat.beq a b
 |_=>false
def IG (b:Nat):List Oper->Bool
 |[]=>true
 |o::r=>bif xz b o then(o::r).all (λo=>match o.dst with|some d=> !Nat.beq d b|none=>true)else IG b r
def uz (pr:List Nat) (ops:List Oper) (k m:Nat):ll->ll
 | .ap _=> .ap ((Hk m 0 (ops.take k)).filter λb=>IG b (ops.take k)&&(rS pr ops 12 b).isNone)
 |c=>c
def qy (P:Program) (pr:List Nat) (ops:List Oper):List Oper->List Nat->List gk
 |[],_=>[]
 |o::r,acc=>let b:=Ek o acc;⟨b,uz pr ops acc.length b (cls P pr ops o),o.dst,qu pr ops o⟩::qy P pr ops r (acc++[b])
def LB (d:Option Nat) (m:Nat):Bool:=match d with|some t=>m.testBit t|none=>false
def TJ (d e:Option Nat):Bool:=match d,e with|some t,some u=>Nat.beq t u|_,_=>false
def Lf (i:Nat) (p:gk):List gk->Bool
 |[]=>true
 |q::r=>(q.bf.testBit i||(!Td p.k q.k&& !LB p.dst q.lk&& !LB q.dst p.lk&& !TJ p.dst q.dst))&&Lf i p r
def CZ:Nat->List gk->List Oper->Bool
 |_,[],_=>true
 |_,_::_,[]=>false
 |i,p::r,o::os=>Nat.blt p.bf (2^i)&&(match o.guard with|some (j,_)=>p.bf.testBit j|none=>true)&&Lf i p r&&CZ (i+1) r os
def uW (i bi:Nat) (f:ll->Bool):Nat->List gk->Bool
 |_,[]=>false
 |j,q::r=>(!Nat.beq i j&& !q.bf.testBit i&& !bi.testBit j&&f q.k)||uW i bi f (j+1) r
def Fu:ll->Bool
 | .hp=>true
 | .lp _=>true
 |_=>false
def B1:ll->Bool
 | .pure=>true
 | .vT _=>true
 |_=>false
def zQ (i bi:Nat):Nat->List gk->Bool
 |_,[]=>false
 |j,q::r=>(!Nat.beq i j&& !q.bf.testBit i&& !bi.testBit j&& !(Nat.blt j i&&B1 q.k))||zQ i bi (j+1) r
def VP (mp:Nat->Bool) (o:Oper):Bool:=match o.op with
 | .call q=>(match q.callee with
  | .value (.func f)=>mp f
  |_=>false)
 |_=>false
def flags (mp:Nat->Bool) (all:List gk):Nat->List gk->List Oper->List (Oper×Md)
 |_,[],_=>[]
 |_,_,[]=>[]
 |i,p::r,o::os=>
  (o,.d p.k (bif uW i p.bf (λ_=>true) 0 all then(bif VP mp o&& !zQ i p.bf 0 all then 0 else(match p.k with| .call=>(bif uW i p.bf Fu 0 all then 2 else 1)|_=>1))else 0))::flags mp all (i+1) r os
noncomputable def M8 (C:bx) (pr:List Nat) (c:Zg) (ops:Array Oper) (draw:Bool) (E:Env) (K:Env->M β):M β:=
 let l:=ops.toList
 let ms:=xA pr l l
 let dst (j:Nat):Option Nat:=match l[j]? with|some o=>o.dst|none=>none
 bif draw then
  let is:=qy C.P pr l l []
  bif CZ 0 is l then sD C pr ms c dst l.length (flags C.mp is 0 is l) [] E K else fail
 else sD C pr ms c dst l.length (l.map λo=>(o,.s)) [] E K
inductive JS where
 |v (x:Sh)
 |l (x:List B)
 |t
inductive pI where
 |z
 |n (a b:pI)
 |j (J:List (Nat×JS)) (a b:pI)
def pI.a:pI->pI| .n a _=>a| .j _ a _=>a| .z=> .z
def pI.b:pI->pI| .n _ b=>b| .j _ _ b=>b| .z=> .z
def ri (E0 E:Env):List (Nat×JS)->(List DV->M β)->M β
 |[],K=>K []
 |(t,x)::r,K=>match x,E.get t with
  | .v _,.v d=>ri E0 E r λds=>K (d::ds)
  | .l _,.loc v _ cs=>(match E0.get t with| .loc v0 _ _=>bif Nat.beq v0 v then ri E0 E r λds=>K (.agg cs::ds)else fail|_=>fail)
  | .t,.it v _ p=>(match E0.get t with| .it v0 _ _=>bif Nat.beq v0 v then ri E0 E r λds=>K (.nat p::ds)else fail|_=>fail)
  |_,_=>fail
def rM (E:Env):List (Nat×JS)->List DV->Env->(Env->M β)->M β
 |[],st,E1,K=>aJ st (K E1)
 |(t,x)::r,st,E1,K=>jS st λd rest=>match x,E.get t with
  | .v x,_=>ym x d λd=>rM E r rest (E1.put t (.v d)) K
  | .l x,.loc v n _=>sI d λcs=>ng x cs λcs=>rM E r rest (E1.put t (.loc v n cs)) K
  | .t,.it v s _=>WO d λp=>rM E r rest (E1.put t (.it v s p)) K
  |_,_=>fail
def A9 (gQ:List Nat):List (Nat×JS)->Bool
 |[]=>true
 |(t,_)::r=>has gQ t&&A9 gQ r
noncomputable def VG (E:Env) (gQ:List Nat) (J:List (Nat×JS)) (K:Env->M β) (g:((Env->M β)->M β)):M β:=
 bif A9 gQ J then cI (λst=>rM E J st (E.del gQ) K) λjk=>g λE1=>ri E E1 J jk else fail
noncomputable def exec (C:bx) (pr:List Nat) (c:Zg) (n:Nat):Code->pI->(Env->M β)->(Nat->Env->M β)->(Env->M β)->Env->M β
 | .skip,_,kn,_,_,E=>kn E
 | .seq a b,A,kn,kx,kr,E=>exec C pr c n a A.a (λE'=>exec C pr c n b A.b kn kx kr E') kx kr E
 | .region _ ops d,_,kn,_,_,E=>M8 C pr c ops d E kn
 | .cond x a b,A,kn,kx,kr,E=>TB C E x λv=>
   match A with
   | .j J A1 A2=>VG E (lI pr a++lI pr b) J kn λjk=>bif v then exec C pr c n a A1 jk kx kr E else exec C pr c n b A2 jk kx kr E
   |A=>bif v then exec C pr c n a A.a kn kx kr E else exec C pr c n b A.b kn kx kr E
 | .block id body,A,kn,kx,kr,E=>
   match A with
   | .j J A1 _=>VG E (lI pr body) J kn λjk=>exec C pr c n body A1 jk (λi E1=>bif Nat.beq i id then jk E1 else kx i E1) kr E
   |A=>exec C pr c n body A.a kn (λi E1=>bif Nat.beq i id then kn E1 else kx i E1) kr E
 | .loop body,A,_,kx,kr,E=>
   match A with
   | .j J A1 _=>bif A9 (lI pr body) J then ri E E J λst=>cW (λrec st=>rM E J st (E.del (lI pr body)) λE1=>exec C pr c n body A1 (λE2=>ri E E2 J rec) kx kr E1) n st else fail
   |_=>fail
 | .exit id,_,_,kx,_,E=>kx id E
 | .ret,_,_,_,kr,E=>kr E
 |_,_,_,_,_,_=>fail
def okO (ok:Nat->Bool):List Oper->Bool
 |[]=>true
 |o::r=>(match o.dst with|some d=>ok d|none=>true)&&okO ok r
def xC (ok:Nat->Bool):Code->Bool
 | .region _ ops _=>okO ok ops.toList
 | .seq a b| .cond _ a b=>xC ok a&&xC ok b
 | .block _ b| .loop b| .scope b=>xC ok b
 |_=>true
def rJ (n d:Nat):Bool:=Nat.blt d n
structure FA where
 pr:List Nat
 Hi:pI
 fK:Bool
def ux (C:bx) (E:Env):List ResultVar->(List DV->M β)->M β
 |[],K=>K []
 | .tmp t::r,K=>fa C E (.tmp t) λd=>ux C E r λds=>K (d::ds)
 | .cell a t::r,K=>match E.get a with
  | .loc _ n cs=>qC C.P t (bif Z9 C.P t then(bif Nat.beq n (C.P.cellsOf t)then ux C E r λds=>K (.agg cs::ds)else fail)else ej cs 0 λd=>ux C E r λds=>K (d::ds))
  |_=>fail
def jE:Nat->List DV->List (Nat×ez)
 |_,[]=>[]
 |t,d::r=>(t,.v d)::jE (t+1) r
noncomputable def tS (C:bx) (A:FA) (fn:Func) (c:Zg) (n:Nat) (args:List DV):M (List DV):=
 match fn.body with
 |some code=>bif xC (rJ fn.ntmps) code&&Nat.ble (fn.params.size+fn.nfree) fn.ntmps then Ai (fn.params.toList.map (l8 C.P)++List.replicate fn.nfree (.b .ptr)) args λds=>
   bif A.fK then jn λb=>
    let kr (E:Env):M (List DV):=ux C E fn.results.toList λds=>cu b ds
    exec C A.pr c n code A.Hi kr (λ_ _=>fail) kr ⟨0,jE 0 ds⟩
   else
    let kr (E:Env):M (List DV):=ux C E fn.results.toList λds=>ay ds
    exec C A.pr c n code A.Hi kr (λ_ _=>fail) kr ⟨0,jE 0 ds⟩
   else fail
 |none=>fail
abbrev Zh:=Nat->Zg->Nat->List DV->M (List DV)
def run (Bd:Zh):Nat->Zg
 |0,_,_=>fail
 |n+1,g,args=>Bd g (run Bd n) n args
noncomputable def mh (m:M (List DV)) (K:Int->M β):M β:=uX m λds=>aF .i64 ds λa0 r0=>aJ r0<|K a0
noncomputable def Bq (m:M (List DV)) (K:List UInt8->M β):M β:=uX m λds=>ep ds λa0 r0=>aJ r0<|K a0
noncomputable def uL (m:M (List DV)) (K:Int->M β):M β:=qZ m λds=>aF .i64 ds λa0 r0=>aJ r0<|K a0
noncomputable def BU (m:M (List DV)) (K:Int->M β):M β:=qZ m λds=>aF .u64 ds λa0 r0=>aJ r0<|K a0
noncomputable def jD (m:M (List DV)) (K:List UInt8->M β):M β:=qZ m λds=>ep ds λa0 r0=>aJ r0<|K a0
noncomputable def C_ (m:M (List DV)) (K:M β):M β:=cY m λds=>aJ ds<|K
noncomputable def DG (m:M (List DV)) (K:Int->Int->Int->Int->Option (Nat×Nat)->Nat->Bool->M β):M β:=cY m λds=>bj ds λq1 r0=>aF .i64 q1 λa0 r2=>aF .i64 r2 λa1 r3=>aF .i64 r3 λa2 r4=>aF .i64 r4 λa3 r5=>bN 1 r5 λa4 a5 r6=>aJ r6<|gP r0 λa6 r7=>aJ r7<|K a0 a1 a2 a3 a4 a5 a6
noncomputable def DE (m:M (List DV)) (K:Int->Int->Int->Option (Nat×Nat)->Nat->Option (Nat×Nat)->Nat->Option (Nat×Nat)->Nat->Option (Nat×Nat)->Int->M β):M β:=cY m λds=>bj ds λq1 r0=>aF .i64 q1 λa0 r2=>aF .i64 r2 λa1 r3=>aF .i64 r3 λa2 r4=>bN 2 r4 λa3 a4 r5=>bN 1 r5 λa5 a6 r6=>bN 1 r6 λa7 a8 r7=>aJ r7<|nj r0 λa9 r8=>aF .i64 r8 λkt r9=>aJ r9<|K a0 a1 a2 a3 a4 a5 a6 a7 a8 a9 kt
noncomputable def aY (m:M (List DV)) (K:Bool->M β):M β:=cY m λds=>gP ds λa0 r0=>aJ r0<|K a0
noncomputable def tm (m:M (List DV)) (K:DV->M β):M β:=cY m λds=>WQ ds λa0 r0=>aJ r0<|K a0
noncomputable def cM (m:M (List DV)) (K:Int->M β):M β:=cY m λds=>aF .i64 ds λa0 r0=>aJ r0<|K a0
noncomputable def tG (m:M (List DV)) (K:Int->Int->Option (Nat×Nat)->Nat->Bool->M β):M β:=cY m λds=>aF .i64 ds λa0 r0=>aF .i64 r0 λa1 r1=>bN 1 r1 λa2 a3 r2=>gP r2 λa4 r3=>aJ r3<|K a0 a1 a2 a3 a4
noncomputable def wG (m:M (List DV)) (K:Int->Int->List UInt8->Bool->M β):M β:=cY m λds=>aF .i64 ds λa0 r0=>aF .i64 r0 λa1 r1=>ep r1 λa2 r2=>gP r2 λa3 r3=>aJ r3<|K a0 a1 a2 a3
noncomputable def tO (m:M (List DV)) (K:Int->M β):M β:=cY m λds=>aF .u32 ds λa0 r0=>aJ r0<|K a0
noncomputable def zV (m:M (List DV)) (K:Int->M β):M β:=cY m λds=>aF .u64 ds λa0 r0=>aJ r0<|K a0
noncomputable def lN (m:M (List DV)) (K:Option (Nat×Nat)->Nat->M β):M β:=cY m λds=>bN 1 ds λa0 a1 r0=>aJ r0<|K a0 a1
noncomputable def JF (m:M (List DV)) (K:Option (Nat×Nat)->Nat->Int->Int->Int->Int->Int->Int->Int->Int->Option (Nat×Nat)->Nat->Bool->M β):M β:=cY m λds=>bN 1 ds λa0 a1 r0=>bj r0 λq2 r1=>aF .i64 q2 λa2 r3=>aF .i64 r3 λa3 r4=>aF .i64 r4 λa4 r5=>aF .i64 r5 λa5 r6=>aF .i64 r6 λa6 r7=>aF .i64 r7 λa7 r8=>aF .i64 r8 λa8 r9=>aF .i64 r9 λa9 tf=>bN 1 tf λkt nT C0=>aJ C0<|gP r1 λa12 r12=>aJ r12<|K a0 a1 a2 a3 a4 a5 a6 a7 a8 a9 kt nT a12
noncomputable def oC (m:M (List DV)) (K:Option (Nat×Nat)->Nat->Bool->M β):M β:=cY m λds=>bN 1 ds λa0 a1 r0=>gP r0 λa2 r1=>aJ r1<|K a0 a1 a2
noncomputable def D6 (m:M (List DV)) (K:Option (Nat×Nat)->Nat->Option (Nat×Nat)->Nat->Bool->M β):M β:=cY m λds=>bN 4 ds λa0 a1 r0=>bN 1 r0 λa2 a3 r1=>gP r1 λa4 r2=>aJ r2<|K a0 a1 a2 a3 a4
noncomputable def Br (m:M (List DV)) (K:Option (Nat×Nat)->M β):M β:=cY m λds=>nj ds λa0 r0=>aJ r0<|K a0
noncomputable def iM (m:M (List DV)) (K:List UInt8->M β):M β:=cY m λds=>ep ds λa0 r0=>aJ r0<|K a0
noncomputable def tn (m:M (List DV)) (K:List UInt8->Bool->M β):M β:=cY m λds=>ep ds λa0 r0=>gP r0 λa1 r1=>aJ r1<|K a0 a1
noncomputable def ZZ (st:List DV) (K:Int->Int->Int->Int->Int->Int->Int->Int->Option (Nat×Nat)->Nat->M β):M β:=bj st λq1 r0=>aF .i64 q1 λa0 r2=>aF .i64 r2 λa1 r3=>aF .i64 r3 λa2 r4=>aF .i64 r4 λa3 r5=>aF .i64 r5 λa4 r6=>aF .i64 r6 λa5 r7=>aF .i64 r7 λa6 r8=>aF .i64 r8 λa7 r9=>bN 1 r9 λa8 a9 tf=>aJ tf<|aJ r0<|K a0 a1 a2 a3 a4 a5 a6 a7 a8 a9
noncomputable def JG (st:List DV) (K:Int->Int->Int->Int->Int->Int->Int->Int->Option (Nat×Nat)->Nat->Int->M β):M β:=bj st λq1 r0=>aF .i64 q1 λa0 r2=>aF .i64 r2 λa1 r3=>aF .i64 r3 λa2 r4=>aF .i64 r4 λa3 r5=>aF .i64 r5 λa4 r6=>aF .i64 r6 λa5 r7=>aF .i64 r7 λa6 r8=>aF .i64 r8 λa7 r9=>bN 1 r9 λa8 a9 tf=>aJ tf<|aF .i64 r0 λkt C0=>aJ C0<|K a0 a1 a2 a3 a4 a5 a6 a7 a8 a9 kt
noncomputable def DK (st:List DV) (K:Int->Int->Int->Int->Option (Nat×Nat)->Nat->M β):M β:=bj st λq1 r0=>aF .i64 q1 λa0 r2=>aF .i64 r2 λa1 r3=>aF .i64 r3 λa2 r4=>aF .i64 r4 λa3 r5=>bN 1 r5 λa4 a5 r6=>aJ r6<|aJ r0<|K a0 a1 a2 a3 a4 a5
noncomputable def JD (st:List DV) (K:Int->Int->Int->Int->Int->Int->Int->Int->M β):M β:=bj st λq1 r0=>aF .i64 q1 λa0 r2=>aF .i64 r2 λa1 r3=>aF .i64 r3 λa2 r4=>aF .i64 r4 λa3 r5=>aJ r5<|bj r0 λq7 r6=>aF .i64 q7 λa4 r8=>aF .i64 r8 λa5 r9=>aF .i64 r9 λa6 tf=>aF .i64 tf λa7 C0=>aJ C0<|aJ r6<|K a0 a1 a2 a3 a4 a5 a6 a7
noncomputable def ZD (st:List DV) (K:Int->Int->Int->Option (Nat×Nat)->Nat->Option (Nat×Nat)->Nat->Option (Nat×Nat)->Nat->M β):M β:=bj st λq1 r0=>aF .i64 q1 λa0 r2=>aF .i64 r2 λa1 r3=>aF .i64 r3 λa2 r4=>bN 2 r4 λa3 a4 r5=>bN 1 r5 λa5 a6 r6=>bN 1 r6 λa7 a8 r7=>aJ r7<|aJ r0<|K a0 a1 a2 a3 a4 a5 a6 a7 a8
noncomputable def BK (st:List DV) (K:Int->Int->Int->M β):M β:=bj st λq1 r0=>aF .i64 q1 λa0 r2=>aF .i64 r2 λa1 r3=>aF .i64 r3 λa2 r4=>aJ r4<|aJ r0<|K a0 a1 a2
noncomputable def GQ (st:List DV) (K:List UInt8->Option (Nat×Nat)->Nat->M β):M β:=bj st λq1 r0=>ep q1 λa0 r2=>bN 4 r2 λa1 a2 r3=>aJ r3<|aJ r0<|K a0 a1 a2
noncomputable def iu (st:List DV) (K:Bool->M β):M β:=gP st λa0 r0=>aJ r0<|K a0
noncomputable def pP (st:List DV) (K:Bool->Int->Int->M β):M β:=gP st λa0 r0=>aF .i64 r0 λa1 r1=>aF .i64 r1 λa2 r2=>aJ r2<|K a0 a1 a2
noncomputable def cy (st:List DV) (K:Int->M β):M β:=aF .i64 st λa0 r0=>aJ r0<|K a0
noncomputable def gK (st:List DV) (K:Int->Int->M β):M β:=aF .i64 st λa0 r0=>aF .i64 r0 λa1 r1=>aJ r1<|K a0 a1
noncomputable def B0 (st:List DV) (K:Int->Int->Int->M β):M β:=aF .i64 st λa0 r0=>aF .i64 r0 λa1 r1=>aF .i64 r1 λa2 r2=>aJ r2<|K a0 a1 a2
noncomputable def oJ (st:List DV) (K:Int->Int->Int->Int->M β):M β:=aF .i64 st λa0 r0=>aF .i64 r0 λa1 r1=>aF .i64 r1 λa2 r2=>aF .i64 r2 λa3 r3=>aJ r3<|K a0 a1 a2 a3
noncomputable def ZrK (st:List DV) (K:Int->Int->Int->Int->Bool->M β):M β:=aF .i64 st λa0 r0=>aF .i64 r0 λa1 r1=>aF .i64 r1 λa2 r2=>aF .i64 r2 λa3 r3=>gP r3 λa4 r4=>aJ r4<|K a0 a1 a2 a3 a4
noncomputable def BA (st:List DV) (K:Int->Int->Int->Int->Int->Int->Option (Nat×Nat)->Nat->M β):M β:=aF .i64 st λa0 r0=>aF .i64 r0 λa1 r1=>aF .i64 r1 λa2 r2=>aF .i64 r2 λa3 r3=>aF .i64 r3 λa4 r4=>aF .i64 r4 λa5 r5=>bN 1 r5 λa6 a7 r6=>aJ r6<|K a0 a1 a2 a3 a4 a5 a6 a7
noncomputable def Ztb (st:List DV) (K:Int->Int->Option (Nat×Nat)->Nat->M β):M β:=aF .i64 st λa0 r0=>aF .i64 r0 λa1 r1=>bN 1 r1 λa2 a3 r2=>aJ r2<|K a0 a1 a2 a3
noncomputable def ZH (st:List DV) (K:Int->Int->Option (Nat×Nat)->Nat->Option (Nat×Nat)->Nat->Option (Nat×Nat)->Nat->M β):M β:=aF .i64 st λa0 r0=>aF .i64 r0 λa1 r1=>bN 2 r1 λa2 a3 r2=>bN 1 r2 λa4 a5 r3=>bN 1 r3 λa6 a7 r4=>aJ r4<|K a0 a1 a2 a3 a4 a5 a6 a7
noncomputable def Ztl (st:List DV) (K:Int->Bool->M β):M β:=aF .u8 st λa0 r0=>gP r0 λa1 r1=>aJ r1<|K a0 a1
noncomputable def Zpw (st:List DV) (K:Int->Int->M β):M β:=aF .u8 st λa0 r0=>aF .u8 r0 λa1 r1=>aJ r1<|K a0 a1
noncomputable def cm (st:List DV) (K:Option (Nat×Nat)->Nat->M β):M β:=bN 1 st λa0 a1 r0=>aJ r0<|K a0 a1
noncomputable def Oe (st:List DV) (K:Option (Nat×Nat)->Nat->Int->Int->Int->Option (Nat×Nat)->Nat->Option (Nat×Nat)->Nat->Option (Nat×Nat)->Nat->Int->M β):M β:=bN 1 st λa0 a1 r0=>bj r0 λq2 r1=>aF .i64 q2 λa2 r3=>aF .i64 r3 λa3 r4=>aF .i64 r4 λa4 r5=>bN 2 r5 λa5 a6 r6=>bN 1 r6 λa7 a8 r7=>bN 1 r7 λa9 kt r8=>aJ r8<|aF .i64 r1 λnT r9=>aJ r9<|K a0 a1 a2 a3 a4 a5 a6 a7 a8 a9 kt nT
noncomputable def Zgs (st:List DV) (K:Option (Nat×Nat)->Nat->Int->Int->Int->Option (Nat×Nat)->Nat->Option (Nat×Nat)->Nat->Option (Nat×Nat)->Nat->Int->Int->M β):M β:=bN 1 st λa0 a1 r0=>bj r0 λq2 r1=>aF .i64 q2 λa2 r3=>aF .i64 r3 λa3 r4=>aF .i64 r4 λa4 r5=>bN 2 r5 λa5 a6 r6=>bN 1 r6 λa7 a8 r7=>bN 1 r7 λa9 kt r8=>aJ r8<|aF .i64 r1 λnT r9=>aF .i64 r9 λa12 tf=>aJ tf<|K a0 a1 a2 a3 a4 a5 a6 a7 a8 a9 kt nT a12
noncomputable def Hb (st:List DV) (K:Option (Nat×Nat)->Nat->Bool->M β):M β:=bN 1 st λa0 a1 r0=>gP r0 λa2 r1=>aJ r1<|K a0 a1 a2
noncomputable def qV (st:List DV) (K:Option (Nat×Nat)->Nat->Int->M β):M β:=bN 1 st λa0 a1 r0=>aF .i64 r0 λa2 r1=>aJ r1<|K a0 a1 a2
noncomputable def wE (st:List DV) (K:Option (Nat×Nat)->Nat->Int->Int->M β):M β:=bN 1 st λa0 a1 r0=>aF .i64 r0 λa2 r1=>aF .i64 r1 λa3 r2=>aJ r2<|K a0 a1 a2 a3
noncomputable def Ju (st:List DV) (K:Nat->M β):M β:=WR st λa0 r0=>aJ r0<|K a0
noncomputable def ji (st:List DV) (K:Option (Nat×Nat)->M β):M β:=nj st λa0 r0=>aJ r0<|K a0
noncomputable def kK (st:List DV) (K:List UInt8->M β):M β:=ep st λa0 r0=>aJ r0<|K a0
noncomputable def JH (st:List DV) (K:List UInt8->Int->Int->Int->Int->Int->Int->Int->Int->Option (Nat×Nat)->Nat->M β):M β:=ep st λa0 r0=>bj r0 λq2 r1=>aF .i64 q2 λa1 r3=>aF .i64 r3 λa2 r4=>aF .i64 r4 λa3 r5=>aF .i64 r5 λa4 r6=>aF .i64 r6 λa5 r7=>aF .i64 r7 λa6 r8=>aF .i64 r8 λa7 r9=>aF .i64 r9 λa8 tf=>bN 1 tf λa9 kt C0=>aJ C0<|aJ r1<|K a0 a1 a2 a3 a4 a5 a6 a7 a8 a9 kt
noncomputable def oG (st:List DV) (K:List UInt8->Int->M β):M β:=ep st λa0 r0=>aF .i64 r0 λa1 r1=>aJ r1<|K a0 a1
def ZE (a0:Bool) (a1:Int) (a2:Int) (a3:Bool) (a4:Int) (a5:Int) (a6:Bool) (a7:Int) (a8:Int) (a9:Bool) (kt:Int) (nT:Int) (a12:Bool) (Ca:Int) (Hf:Int) (Ti:Bool) (Tj:Int) (a17:Int) (Tk:Bool) (Tl:Int) (a20:Int) (a21:Bool):List DV:=[.agg [.bool a0,.int .i64 a1,.int .i64 a2,.bool a3,.int .i64 a4,.int .i64 a5,.bool a6,.int .i64 a7,.int .i64 a8,.bool a9,.int .i64 kt,.int .i64 nT,.bool a12,.int .i64 Ca,.int .i64 Hf,.bool Ti,.int .i64 Tj,.int .i64 a17,.bool Tk,.int .i64 Tl,.int .i64 a20],.bool a21]
def wq (a0:Int) (a1:Int) (a2:Int) (a3:Int) (a4:Int) (a5:Int) (a6:Int) (a7:Int) (a8:Option (Nat×Nat)) (a9:Nat):List DV:=[.agg [.int .i64 a0,.int .i64 a1,.int .i64 a2,.int .i64 a3,.int .i64 a4,.int .i64 a5,.int .i64 a6,.int .i64 a7,.slice 1 a8 a9]]
def zD (a0:Int) (a1:Int) (a2:Int) (a3:Int) (a4:Option (Nat×Nat)) (a5:Nat) (a6:Bool):List DV:=[.agg [.int .i64 a0,.int .i64 a1,.int .i64 a2,.int .i64 a3,.slice 0 a4 a5],.bool a6]
def DJ (a0:Int) (a1:Int) (a2:Int) (a3:Int) (a4:Option (Nat×Nat)) (a5:Nat) (a6:Int):List DV:=[.agg [.int .i64 a0,.int .i64 a1,.int .i64 a2,.int .i64 a3,.slice 0 a4 a5],.int .i64 a6]
def wA (a0:Int) (a1:Int) (a2:Int) (a3:Int) (a4:Option (Nat×Nat)) (a5:Nat):List DV:=[.agg [.int .i64 a0,.int .i64 a1,.int .i64 a2,.int .i64 a3,.slice 1 a4 a5]]
def DL (a0:Int) (a1:Int) (a2:Int) (a3:Int) (a4:Option (Nat×Nat)) (a5:Nat) (a6:Bool):List DV:=[.agg [.int .i64 a0,.int .i64 a1,.int .i64 a2,.int .i64 a3,.slice 1 a4 a5],.bool a6]
def DH (a0:Int) (a1:Int) (a2:Int) (a3:Int) (a4:Option (Nat×Nat)) (a5:Nat) (a6:Int):List DV:=[.agg [.int .i64 a0,.int .i64 a1,.int .i64 a2,.int .i64 a3,.slice 1 a4 a5],.int .i64 a6]
def zw (a0:Int) (a1:Int) (a2:Int) (a3:Int) (a4:Int) (a5:Int) (a6:Int) (a7:Int):List DV:=[.agg [.int .i64 a0,.int .i64 a1,.int .i64 a2,.int .i64 a3],.agg [.int .i64 a4,.int .i64 a5,.int .i64 a6,.int .i64 a7]]
def zC (a0:Int) (a1:Int) (a2:Int) (a3:Option (Nat×Nat)) (a4:Nat) (a5:Option (Nat×Nat)) (a6:Nat) (a7:Option (Nat×Nat)) (a8:Nat) (a9:Option (Nat×Nat)) (kt:Nat) (nT:Bool):List DV:=[.agg [.int .i64 a0,.int .i64 a1,.int .i64 a2,.slice 0 a3 a4,.slice 0 a5 a6,.slice 0 a7 a8],.slice 0 a9 kt,.bool nT]
def zy (a0:Int) (a1:Int) (a2:Int) (a3:Option (Nat×Nat)) (a4:Nat) (a5:Option (Nat×Nat)) (a6:Nat) (a7:Option (Nat×Nat)) (a8:Nat):List DV:=[.agg [.int .i64 a0,.int .i64 a1,.int .i64 a2,.slice 2 a3 a4,.slice 1 a5 a6,.slice 1 a7 a8]]
def tP (a0:Int) (a1:Int) (a2:Int):List DV:=[.agg [.int .i64 a0,.int .i64 a1,.int .i64 a2]]
def Dy (a0:List UInt8) (a1:Int) (a2:Int) (a3:Int) (a4:Int) (a5:Int) (a6:Int) (a7:Int) (a8:Int) (a9:Int) (kt:Int) (nT:Int) (a12:Int) (Ca:Int) (Hf:Bool):List DV:=[.agg [.str a0,.int .i64 a1,.int .i64 a2,.int .i64 a3,.int .i64 a4,.int .i64 a5,.int .i64 a6,.int .i64 a7,.int .i64 a8,.int .i64 a9,.int .i64 kt,.int .i64 nT,.int .i64 a12,.int .i64 Ca],.bool Hf]
def Lb (a0:Bool):List DV:=[.bool a0]
def Du (a0:Bool) (a1:Int):List DV:=[.bool a0,.int .i64 a1]
def qN (a0:Bool) (a1:Int) (a2:Int):List DV:=[.bool a0,.int .i64 a1,.int .i64 a2]
def Z7 (a0:Bool) (a1:Int) (a2:Int) (a3:Bool) (a4:Int) (a5:Int) (a6:Bool) (a7:Int) (a8:Int) (a9:Bool) (kt:Int) (nT:Int) (a12:Bool) (Ca:Int) (Hf:Int) (Ti:Bool) (Tj:Int) (a17:Int) (Tk:Bool) (Tl:Int) (a20:Int):List DV:=[.bool a0,.int .i64 a1,.int .i64 a2,.bool a3,.int .i64 a4,.int .i64 a5,.bool a6,.int .i64 a7,.int .i64 a8,.bool a9,.int .i64 kt,.int .i64 nT,.bool a12,.int .i64 Ca,.int .i64 Hf,.bool Ti,.int .i64 Tj,.int .i64 a17,.bool Tk,.int .i64 Tl,.int .i64 a20]
def Li (a0:Int):List DV:=[.int .i64 a0]
def fW (a0:Int) (a1:Int):List DV:=[.int .i64 a0,.int .i64 a1]
def Bu (a0:Int):List DV:=[.int .i32 a0]
def xQ (a0:Int) (a1:Int) (a2:Int):List DV:=[.int .i64 a0,.int .i64 a1,.int .i64 a2]
def zm (a0:Int) (a1:Int) (a2:Int) (a3:Int):List DV:=[.int .i64 a0,.int .i64 a1,.int .i64 a2,.int .i64 a3]
def Gb (a0:Int) (a1:Int) (a2:Int) (a3:Int) (a4:Int) (a5:Int) (a6:Int) (a7:Int) (a8:Option (Nat×Nat)) (a9:Nat):List DV:=[.int .i64 a0,.int .i64 a1,.int .i64 a2,.int .i64 a3,.int .i64 a4,.int .i64 a5,.int .i64 a6,.int .i64 a7,.slice 0 a8 a9]
def oH (a0:Int) (a1:Int) (a2:List UInt8):List DV:=[.int .i64 a0,.int .i64 a1,.str a2]
def tr (a0:Int) (a1:Option (Nat×Nat)) (a2:Nat):List DV:=[.int .i64 a0,.slice 1 a1 a2]
def kf (a0:Int):List DV:=[.int .u32 a0]
def oN (a0:Int) (a1:Int):List DV:=[.int .u32 a0,.int .i64 a1]
def mY (a0:Int):List DV:=[.int .u64 a0]
def ZI (a0:Int) (a1:Int):List DV:=[.int .u64 a0,.int .i64 a1]
def mj (a0:Int):List DV:=[.int .u8 a0]
def tt (a0:Option (Nat×Nat)) (a1:Nat) (a2:Bool):List DV:=[.slice 0 a0 a1,.bool a2]
def jQ (a0:Option (Nat×Nat)) (a1:Nat) (a2:Int):List DV:=[.slice 0 a0 a1,.int .i64 a2]
def qQ (a0:Option (Nat×Nat)) (a1:Nat) (a2:Option (Nat×Nat)) (a3:Nat) (a4:Bool):List DV:=[.slice 0 a0 a1,.slice 0 a2 a3,.bool a4]
def bE (a0:Option (Nat×Nat)) (a1:Nat):List DV:=[.slice 1 a0 a1]
def xS (a0:Option (Nat×Nat)) (a1:Nat) (a2:Int) (a3:Int) (a4:Int) (a5:Int) (a6:Int) (a7:Int) (a8:Int) (a9:Int) (kt:Option (Nat×Nat)) (nT:Nat):List DV:=[.slice 1 a0 a1,.agg [.int .i64 a2,.int .i64 a3,.int .i64 a4,.int .i64 a5,.int .i64 a6,.int .i64 a7,.int .i64 a8,.int .i64 a9,.slice 1 kt nT]]
def eU (a0:Option (Nat×Nat)) (a1:Nat) (a2:Int):List DV:=[.slice 1 a0 a1,.int .i64 a2]
def ja (a0:Option (Nat×Nat)) (a1:Nat) (a2:Int) (a3:Int):List DV:=[.slice 1 a0 a1,.int .i64 a2,.int .i64 a3]
def tH (a0:Option (Nat×Nat)) (a1:Nat) (a2:Option (Nat×Nat)) (a3:Nat):List DV:=[.slice 1 a0 a1,.slice 1 a2 a3]
def tw (a0:Option (Nat×Nat)) (a1:Nat):List DV:=[.slice 4 a0 a1]
def Lp (a0:Option (Nat×Nat)):List DV:=[.ptr a0]
def mZ (a0:Option (Nat×Nat)) (a1:Int):List DV:=[.ptr a0,.int .i64 a1]
def uN (a0:Option (Nat×Nat)) (a1:List UInt8):List DV:=[.ptr a0,.str a1]
def Ls (a0:List UInt8):List DV:=[.str a0]
def uO (a0:List UInt8) (a1:Bool):List DV:=[.str a0,.bool a1]
def eH (a0:List UInt8) (a1:Int):List DV:=[.str a0,.int .i64 a1]
def xR (a0:List UInt8) (a1:Int) (a2:Int):List DV:=[.str a0,.int .i64 a1,.int .i64 a2]
def DD (a0:List UInt8) (a1:Int) (a2:Int) (a3:Int) (a4:Int) (a5:Int) (a6:Int) (a7:Int) (a8:Int) (a9:Int) (kt:Int) (nT:Int) (a12:Int) (Ca:Int):List DV:=[.str a0,.int .i64 a1,.int .i64 a2,.int .i64 a3,.int .i64 a4,.int .i64 a5,.int .i64 a6,.int .i64 a7,.int .i64 a8,.int .i64 a9,.int .i64 kt,.int .i64 nT,.int .i64 a12,.int .i64 Ca]
def BN (a0:List UInt8) (a1:Int) (a2:Int) (a3:Int):List DV:=[.str a0,.int .i64 a1,.int .u8 a2,.int .u8 a3]
noncomputable def N_ (p:Option (Nat×Nat)) (x:Int) (l:Nat) (K:Nat->Nat->M β):M β:=bJ p λi o=>aB (aP x l)<|K i o
noncomputable def Q_ (f:M β) (g:(List DV->M β)->M β):M β:=cI (λst=>aJ st<|f) g
noncomputable def Pv (f:Int->Int->Int->Int->Int->Int->Int->Int->Option (Nat×Nat)->Nat->M β) (g:(List DV->M β)->M β):M β:=cI (λst=>bj st λq1 r0=>aF .i64 q1 λa0 r2=>aF .i64 r2 λa1 r3=>aF .i64 r3 λa2 r4=>aF .i64 r4 λa3 r5=>aF .i64 r5 λa4 r6=>aF .i64 r6 λa5 r7=>aF .i64 r7 λa6 r8=>aF .i64 r8 λa7 r9=>bN 1 r9 λa8 a9 tf=>aJ tf<|aJ r0<|f a0 a1 a2 a3 a4 a5 a6 a7 a8 a9) g
noncomputable def DX (f:Int->Int->Int->Int->Option (Nat×Nat)->Nat->M β) (g:(List DV->M β)->M β):M β:=cI (λst=>bj st λq1 r0=>aF .i64 q1 λa0 r2=>aF .i64 r2 λa1 r3=>aF .i64 r3 λa2 r4=>aF .i64 r4 λa3 r5=>bN 1 r5 λa4 a5 r6=>aJ r6<|aJ r0<|f a0 a1 a2 a3 a4 a5) g
noncomputable def az (f:Bool->M β) (g:(List DV->M β)->M β):M β:=cI (λst=>gP st λa0 r0=>aJ r0<|f a0) g
noncomputable def nM (f:Int->M β) (g:(List DV->M β)->M β):M β:=cI (λst=>aF .i64 st λa0 r0=>aJ r0<|f a0) g
noncomputable def wF (f:Int->M β) (g:(List DV->M β)->M β):M β:=cI (λst=>aF .u32 st λa0 r0=>aJ r0<|f a0) g
noncomputable def BZ (f:Int->M β) (g:(List DV->M β)->M β):M β:=cI (λst=>aF .u64 st λa0 r0=>aJ r0<|f a0) g
noncomputable def FZ (f:Int->M β) (g:(List DV->M β)->M β):M β:=cI (λst=>aF .u8 st λa0 r0=>aJ r0<|f a0) g
noncomputable def fX (f:Option (Nat×Nat)->Nat->M β) (g:(List DV->M β)->M β):M β:=cI (λst=>bN 1 st λa0 a1 r0=>aJ r0<|f a0 a1) g
noncomputable def Bx (f:Option (Nat×Nat)->Nat->M β) (g:(List DV->M β)->M β):M β:=cI (λst=>bN 4 st λa0 a1 r0=>aJ r0<|f a0 a1) g
noncomputable def sh (f:List UInt8->M β) (g:(List DV->M β)->M β):M β:=cI (λst=>ep st λa0 r0=>aJ r0<|f a0) g
noncomputable def DF (f:(List DV->M β)->Int->Int->Int->Int->Option (Nat×Nat)->Nat->Int->M β) (n:Nat) (l:List DV):M β:=cW (λrec st=>bj st λq1 r0=>aF .i64 q1 λa0 r2=>aF .i64 r2 λa1 r3=>aF .i64 r3 λa2 r4=>aF .i64 r4 λa3 r5=>bN 1 r5 λa4 a5 r6=>aJ r6<|aF .i64 r0 λa6 r7=>aJ r7<|f rec a0 a1 a2 a3 a4 a5 a6) n l
noncomputable def cH (f:(List DV->M β)->Int->M β) (n:Nat) (l:List DV):M β:=cW (λrec st=>aF .i64 st λa0 r0=>aJ r0<|f rec a0) n l
noncomputable def wC (f:(List DV->M β)->Int->Int->M β) (n:Nat) (l:List DV):M β:=cW (λrec st=>aF .u32 st λa0 r0=>aF .i64 r0 λa1 r1=>aJ r1<|f rec a0 a1) n l
noncomputable def D8 (f:(List DV->M β)->Int->Int->M β) (n:Nat) (l:List DV):M β:=cW (λrec st=>aF .u64 st λa0 r0=>aF .i64 r0 λa1 r1=>aJ r1<|f rec a0 a1) n l
noncomputable def lu (f:(List DV->M β)->Option (Nat×Nat)->Nat->Int->M β) (n:Nat) (l:List DV):M β:=cW (λrec st=>bN 1 st λa0 a1 r0=>aF .i64 r0 λa2 r1=>aJ r1<|f rec a0 a1 a2) n l
noncomputable def tB (f:(List DV->M β)->List UInt8->Int->M β) (n:Nat) (l:List DV):M β:=cW (λrec st=>ep st λa0 r0=>aF .i64 r0 λa1 r1=>aJ r1<|f rec a0 a1) n l
noncomputable def Zn (s:Nat) (p:Option (Nat×Nat)) (x:Int) (l:Nat) (K:Int->M β):M β:=bJ p λi o=>aB (aP x l)<|bF i (x.toNat*s+o) λd=>cP .i64 d λv=>K v
noncomputable def BO (s:Nat) (p:Option (Nat×Nat)) (x:Int) (l:Nat) (K:Int->M β):M β:=bJ p λi o=>aB (aP x l)<|bF i (x.toNat*s+o) λd=>cP .u64 d λv=>K v
noncomputable def tD (s:Nat) (p:Option (Nat×Nat)) (x:Int) (l:Nat) (K:List UInt8->M β):M β:=bJ p λi o=>aB (aP x l)<|bF i (x.toNat*s+o) λd=>Aa d λv=>K v
noncomputable def sE (i p:Nat) (K:Bool->M β):M β:=bF i p λd=>sJ d λv=>K v
noncomputable def Zm (i p:Nat) (K:Int->M β):M β:=bF i p λd=>cP .i64 d λv=>K v
noncomputable def mq (i p:Nat) (K:Int->M β):M β:=bF i p λd=>cP .u8 d λv=>K v
abbrev ah:=List DV
abbrev ai:=Option (Nat×Nat)
abbrev aj:=List UInt8
abbrev ak:=List Int
abbrev al:=List Nat
abbrev ao:=Zg->Nat->ah->M ah
end Go.Gv
