/- A deterministic heap machine beside the model: its values, its heap, what it makes of a function's code. -/
import Derived.Orders
import Derived.KernelRfl
set_option linter.all false
theorem aI:type_of% @decide_eq_true:=@decide_eq_true
theorem aK:type_of% @decide_eq_false:=@decide_eq_false
theorem aW:type_of% @Nat.le_refl:=@Nat.le_refl
theorem aZ:type_of% @Bool.and_eq_true:=@Bool.and_eq_true
theorem bw:type_of% @Int.toNat_natCast:=@Int.toNat_natCast
theorem bD:type_of% @decide_eq_true_iff:=@decide_eq_true_iff
theorem bO:type_of% @if_pos:=@if_pos
theorem bU:type_of% @Bool.not_true:=@Bool.not_true
theorem cq:type_of% @List.length_append:=@List.length_append
theorem cy:type_of% @Bool.not_false:=@Bool.not_false
theorem cz:type_of% @List.getElem?_set_ne:=@List.getElem?_set_ne
theorem cA:type_of% @List.mem_singleton:=@List.mem_singleton
theorem cF:type_of% @List.getElem?_eq_some_iff:=@List.getElem?_eq_some_iff
theorem cG:type_of% @if_neg:=@if_neg
theorem cL:type_of% @Nat.mul_one:=@Nat.mul_one
theorem cO:type_of% @Nat.eq_of_beq_eq_true:=@Nat.eq_of_beq_eq_true
theorem dh:type_of% @List.length_take:=@List.length_take
theorem dt:type_of% @List.getElem?_eq_getElem:=@List.getElem?_eq_getElem
theorem dE:type_of% @List.length_map:=@List.length_map
theorem dJ:type_of% @List.take_of_length_le:=@List.take_of_length_le
theorem dK:type_of% @Nat.add_zero:=@Nat.add_zero
theorem dR:type_of% @List.mem_cons:=@List.mem_cons
theorem ei:type_of% @Nat.zero_add:=@Nat.zero_add
theorem ez:type_of% @Bool.true_and:=@Bool.true_and
theorem eB:type_of% @Nat.zero_le:=@Nat.zero_le
theorem eG:type_of% @List.drop_zero:=@List.drop_zero
theorem eJ:type_of% @List.getElem?_set_self:=@List.getElem?_set_self
theorem eK:type_of% @List.length_cons:=@List.length_cons
theorem eO:type_of% @Option.some.injEq:=@Option.some.injEq
theorem fb:type_of% @List.map_append:=@List.map_append
theorem ft:type_of% @List.length_drop:=@List.length_drop
theorem fE:type_of% @Nat.ble_eq_true_of_le:=@Nat.ble_eq_true_of_le
theorem fF:type_of% @Nat.le_trans:=@Nat.le_trans
theorem gE:type_of% @List.append_nil:=@List.append_nil
theorem gF:type_of% @List.getD_eq_getElem?_getD:=@List.getD_eq_getElem?_getD
theorem gN:type_of% @Bool.false_and:=@Bool.false_and
theorem gX:type_of% @List.append_assoc:=@List.append_assoc
theorem il:type_of% @List.drop_eq_getElem_cons:=@List.drop_eq_getElem_cons
theorem iE:type_of% @Array.getElem?_toList:=@Array.getElem?_toList
theorem iG:type_of% @beq_eq_false_iff_ne:=@beq_eq_false_iff_ne
theorem iO:type_of% @List.getElem?_append_right:=@List.getElem?_append_right
theorem jd:type_of% @Nat.lt_or_ge:=@Nat.lt_or_ge
theorem je:type_of% @Nat.min_eq_left:=@Nat.min_eq_left
theorem ju:type_of% @if_true:=@if_true
theorem jI:type_of% @List.getElem?_cons_zero:=@List.getElem?_cons_zero
theorem jJ:type_of% @List.getElem?_map:=@List.getElem?_map
theorem kb:type_of% @Bool.or_eq_true:=@Bool.or_eq_true
theorem kd:type_of% @List.drop_drop:=@List.drop_drop
theorem ke:type_of% @if_false:=@if_false
theorem kG:type_of% @Array.length_toList:=@Array.length_toList
theorem kH:type_of% @List.length_set:=@List.length_set
theorem lj:type_of% @List.getElem?_append_left:=@List.getElem?_append_left
theorem lN:type_of% @List.range_succ:=@List.range_succ
theorem lO:type_of% @List.take_length:=@List.take_length
theorem lP:type_of% @Nat.blt_eq:=@Nat.blt_eq
theorem lQ:type_of% @Nat.le_of_ble_eq_true:=@Nat.le_of_ble_eq_true
theorem lR:type_of% @Nat.lt_of_lt_of_le:=@Nat.lt_of_lt_of_le
theorem mM:type_of% @Array.getD_eq_getD_getElem?:=@Array.getD_eq_getD_getElem?
theorem mN:type_of% @List.nil_append:=@List.nil_append
theorem mO:type_of% @Nat.sub_self:=@Nat.sub_self
theorem nN:type_of% @Bool.not_eq_true':=@Bool.not_eq_true'
theorem nO:type_of% @List.getElem?_cons_succ:=@List.getElem?_cons_succ
theorem nP:type_of% @List.getElem_mem:=@List.getElem_mem
theorem nQ:type_of% @List.mem_append:=@List.mem_append
theorem ox:type_of% @List.mem_map:=@List.mem_map
theorem oy:type_of% @Nat.add_assoc:=@Nat.add_assoc
theorem oz:type_of% @Nat.add_comm:=@Nat.add_comm
theorem oA:type_of% @of_decide_eq_true:=@of_decide_eq_true
theorem pB:type_of% @Bool.false_eq_true:=@Bool.false_eq_true
theorem pC:type_of% @List.map_cons:=@List.map_cons
theorem pD:type_of% @List.map_set:=@List.map_set
theorem pE:type_of% @List.take_succ_eq_append_getElem:=@List.take_succ_eq_append_getElem
theorem pF:type_of% @Option.isNone_some:=@Option.isNone_some
theorem qN:type_of% @List.cons_append:=@List.cons_append
theorem qO:type_of% @List.length_replicate:=@List.length_replicate
theorem qP:type_of% @or_false:=@or_false
theorem sD:type_of% @List.all_eq_true:=@List.all_eq_true
theorem sE:type_of% @List.drop_eq_nil_of_le:=@List.drop_eq_nil_of_le
theorem sF:type_of% @List.drop_of_length_le:=@List.drop_of_length_le
theorem sG:type_of% @Option.map_some:=@Option.map_some
theorem ue:type_of% @Bool.false_or:=@Bool.false_or
theorem uf:type_of% @List.all_append:=@List.all_append
theorem ug:type_of% @List.getElem?_take:=@List.getElem?_take
theorem uh:type_of% @Nat.add_mul:=@Nat.add_mul
theorem ui:type_of% @Nat.not_lt:=@Nat.not_lt
theorem vu:type_of% @List.all_cons:=@List.all_cons
theorem vv:type_of% @List.eq_nil_of_length_eq_zero:=@List.eq_nil_of_length_eq_zero
theorem vw:type_of% @List.mem_range:=@List.mem_range
theorem vx:type_of% @List.set_set:=@List.set_set
theorem vy:type_of% @Nat.mod_lt:=@Nat.mod_lt
theorem vz:type_of% @Nat.succ_pos:=@Nat.succ_pos
theorem vA:type_of% @Nat.zero_mul:=@Nat.zero_mul
theorem vB:type_of% @decide_eq_true_eq:=@decide_eq_true_eq
theorem xk:type_of% @Bool.or_eq_false_iff:=@Bool.or_eq_false_iff
theorem xl:type_of% @Bool.or_false:=@Bool.or_false
theorem xm:type_of% @List.drop_take:=@List.drop_take
theorem xo:type_of% @List.ext_getElem?:=@List.ext_getElem?
theorem xp:type_of% @List.filter_append:=@List.filter_append
theorem xq:type_of% @List.getElem?_drop:=@List.getElem?_drop
theorem xr:type_of% @List.getElem?_of_mem:=@List.getElem?_of_mem
theorem xu:type_of% @List.length_singleton:=@List.length_singleton
theorem xw:type_of% @List.not_mem_nil:=@List.not_mem_nil
theorem xx:type_of% @List.set_append_right:=@List.set_append_right
theorem xy:type_of% @List.take_add_one:=@List.take_add_one
theorem xz:type_of% @List.take_left:=@List.take_left
theorem xA:type_of% @Nat.beq_refl:=@Nat.beq_refl
theorem xB:type_of% @Nat.mul_le_mul_right:=@Nat.mul_le_mul_right
theorem xC:type_of% @Nat.pow_le_pow_right:=@Nat.pow_le_pow_right
theorem xD:type_of% @Nat.succ_mul:=@Nat.succ_mul
theorem xE:type_of% @Option.some.inj:=@Option.some.inj
theorem xF:type_of% @Prod.mk.injEq:=@Prod.mk.injEq
theorem zW:type_of% @Bool.and_false:=@Bool.and_false
theorem zX:type_of% @Bool.eq_iff_iff:=@Bool.eq_iff_iff
theorem zY:type_of% @List.drop_length:=@List.drop_length
theorem zZ:type_of% @List.flatten_cons:=@List.flatten_cons
theorem z6:type_of% @List.length_range:=@List.length_range
theorem z7:type_of% @List.mem_of_getElem?:=@List.mem_of_getElem?
theorem z8:type_of% @Nat.eq_zero_or_pos:=@Nat.eq_zero_or_pos
theorem Aa:type_of% @Nat.lt_of_le_of_lt:=@Nat.lt_of_le_of_lt
theorem Ab:type_of% @Nat.mul_eq_zero:=@Nat.mul_eq_zero
theorem Ac:type_of% @Nat.xor_lt_two_pow:=@Nat.xor_lt_two_pow
theorem Ad:type_of% @beq_self_eq_true:=@beq_self_eq_true
theorem Dc:type_of% @List.foldl_append:=@List.foldl_append
theorem Dd:type_of% @List.getElem?_toArray:=@List.getElem?_toArray
theorem De:type_of% @List.mem_cons_of_mem:=@List.mem_cons_of_mem
theorem Df:type_of% @List.nodup_append:=@List.nodup_append
theorem Dg:type_of% @Nat.ne_of_beq_eq_false:=@Nat.ne_of_beq_eq_false
theorem Dh:type_of% @Nat.pow_lt_pow_right:=@Nat.pow_lt_pow_right
theorem Di:type_of% @Option.isSome_none:=@Option.isSome_none
theorem G6:type_of% @Array.getElem?_append_left:=@Array.getElem?_append_left
theorem G7:type_of% @Array.getElem?_setIfInBounds_self_of_lt:=@Array.getElem?_setIfInBounds_self_of_lt
theorem G8:type_of% @List.extract_eq_take_drop:=@List.extract_eq_take_drop
theorem aa{α:Sort _}(a b:α):cond true a b=a:=rfl
theorem ae{α:Sort _}(a b:α):cond false a b=b:=rfl
namespace Go.Gv
theorem AC{p:Prop}(h:p:=by omega):p:=h
theorem Do{p:Prop}(h:p:=by simp):p:=h
theorem EQ{p:Prop}[Decidable p](h:p:=by decide):p:=h
theorem Fd{p:Prop}(h:p:=by grind):p:=h
theorem FS{p:Prop}(h:p:=by rfl):p:=h
inductive DV where
 |bool (b:Bool)
 |int (k:IntKind) (n:Int)
 |str (s:List UInt8)
 |ptr (a:Option (Nat×Nat))
 |slice (sz:Nat) (a:Option (Nat×Nat)) (len:Nat)
 |agg (cs:List DV)
 |func (g:Nat) (first cap:List DV)
 |nilFunc
 |iface (t:Nat) (v:DV)
 |nilIface
 |nat (n:Nat)
abbrev DV.i(n:Int):DV:=.int .i64 n
abbrev DV.w(n:Int):DV:=.int .u64 n
abbrev DV.u(n:Int):DV:=.int .u8 n
abbrev DV.y(n:Int):DV:=.int .u32 n
structure aH where
 jS:Bool
 cells:List DV
abbrev St:=List (Option aH)
inductive Out (β:Type) where
 |val (b:β)
 |dM
abbrev M (β:Type):=St->Option (Out β×St)
abbrev Zd:=Nat->List DV->M (List DV)
variable {β:Type}
def fail:M β:=λ_=>none
abbrev bs (l:List UInt8):List UInt8:=l
def St.cells (s:St) (i:Nat):Option (List DV):=
 match s[i]? with
 |some (some b)=>some b.cells
 |_=>none
def St.fJ (s:St) (i:Nat):Option (List DV):=
 match s[i]? with
 |some (some ⟨false,cs⟩)=>some cs
 |_=>none
def ov:List DV->List DV->List DV
 |_::cs,d::ds=>d::ov cs ds
 |cs,[]=>cs
 |[],_=>[]
def cT:List DV->Nat->List DV->List DV
 |cs,0,ds=>ov cs ds
 |c::cs,k+1,ds=>c::cT cs k ds
 |[],_+1,_=>[]
def aF (a:Option (Nat×Nat)) (K:Nat->Nat->M β):M β:=
 match a with
 |some (i,o)=>K i o
 |none=>fail
def bP (i o n:Nat) (K:List DV->M β):M β:=λs=>
 match s.cells i with
 |some cs=>bif Nat.ble (o+n) cs.length then K ((cs.drop o).take n) s else none
 |none=>none
def bc (i o:Nat) (K:DV->M β):M β:=λs=>
 match s.cells i with
 |some cs=>match cs[o]? with
  |some d=>K d s
  |none=>none
 |none=>none
def bB (i o:Nat) (ds:List DV) (K:M β):M β:=λs=>
 match s.fJ i with
 |some cs=>bif Nat.ble (o+ds.length) cs.length then K (s.set i (some ⟨false,cT cs o ds⟩))else none
 |none=>none
def bH (cells:List DV) (K:Nat->M β):M β:=λs=>K s.length (s++[some ⟨false,cells⟩])
def gJ (a:Option (Nat×Nat)) (n:Nat) (K:List DV->M β):M β:=
 match a with
 |some (i,o)=>bP i o n K
 |none=>bif Nat.beq n 0 then K []else fail
def we (a:Option (Nat×Nat)) (ds:List DV) (K:M β):M β:=
 match a with
 |some (i,o)=>bB i o ds K
 |none=>bif Nat.beq ds.length 0 then K else fail
def cB (sz:Nat) (a:Option (Nat×Nat)) (len:Nat) (ds:List DV) (m lim:Nat) (K:Option (Nat×Nat)->M β):M β:=λs=>
 bif Nat.beq m 0 then K a s else
 bif Nat.ble (len+m) lim then
  match a with
  |none=>bif Nat.beq len 0 then K (some (s.length,0)) (s++[some ⟨false,ds⟩])else none
  |some (i,o)=>match s.fJ i with
   |some cs=>bif Nat.ble (o+len*sz) cs.length then K (some (s.length,0)) (s.set i none++[some ⟨false,(cs.drop o).take (len*sz)++ds⟩])else none
   |none=>none
 else none
def aJ (b:Bool) (K:M β):M β:=bif b then K else fail
variable {α β:Type}
def cK (m:M α) (K:α->M β):M β:=λs=>
 match m s with
 |some (.val ds,s')=>K ds s'
 |some (.dM,s')=>some (.dM,s')
 |none=>none
def St.Mt (s s':St):Prop:=∃r,s'=s++r
open Classical in
noncomputable def nf (m:M α) (K:α->M β):M β:=λs=>
 match m s with
 |some (.val ds,s')=>if St.Mt s s' then K ds s' else none
 |_=>none
def p8 (m:M α) (K:α->M β):M β:=λs=>
 match m s with
 |some (.val ds,s')=>K ds s'
 |_=>none
def oL (m:M (List DV)) (H:Bool->M β):M β:=λs=>
 match m s with
 |some (.val _,s')=>H false s'
 |some (.dM,s')=>H true s'
 |none=>none
open Classical in
noncomputable def Bp (i:Nat) (m:M α):M α:=λs=>
 match m s with
 |some (.val ds,s')=>if s'[i]? =s[i]? then some (.val ds,s')else none
 |r=>r
def ta:M β:=λs=>some (.dM,s)
def kS (f:Nat->M β):M β:=λs=>f s.length s
def ZX (b:Nat) (s:St):St:=s.take b++(s.drop b).map (λx=>x.map λk=> { k with jS:=true })
def au (ds:β):M β:=λs=>some (.val ds,s)
def gk (b:Nat) (ds:β):M β:=λs=>some (.val ds,ZX b s)
theorem Zrs (f:List DV->M β) (g:(List DV->M β)->M β): ∃x:M β,∀f' g',f'=f->g'=g->x=g' f':=Do
noncomputable def dU (f:List DV->M β) (g:(List DV->M β)->M β):M β:=Classical.choose (Zrs f g)
theorem Ff (f:List DV->M β) (g:(List DV->M β)->M β):dU f g=g f:=Classical.choose_spec (Zrs f g) f g rfl rfl
def dL (F:(List DV->M β)->List DV->M β):Nat->List DV->M β
 |0,_=>fail
 |n+1,st=>F (dL F n) st
def p7 (d:DV) (K:Bool->M β):M β:=match d with| .bool b=>K b|_=>fail
def pd:IntKind->IntKind->Bool
 | .i8,.i8| .i16,.i16| .i32,.i32| .i64,.i64| .u8,.u8| .u16,.u16| .u32,.u32| .u64,.u64=>true
 |_,_=>false
def dj (k:IntKind) (d:DV) (K:Int->M β):M β:=match d with| .int k' n=>bif pd k' k then K n else fail|_=>fail
def Bn (d:DV) (K:List UInt8->M β):M β:=match d with| .str s=>K s|_=>fail
def uI (d:DV) (K:Option (Nat×Nat)->M β):M β:=match d with| .ptr a=>K a|_=>fail
def bJ (sz:Nat) (d:DV) (K:Option (Nat×Nat)->Nat->M β):M β:=
 match d with| .slice z a n=>bif Nat.beq z sz||a.isNone then K a n else fail|_=>fail
def Mj (d:DV) (K:Nat->List DV->List DV->M β):M β:=match d with| .func g f c=>K g f c|_=>fail
def nZ (d:DV) (K:List DV->M β):M β:=match d with| .agg cs=>K cs|_=>fail
def O0 (d:DV) (K:Nat->M β):M β:=match d with| .nat n=>K n|_=>fail
def im (cs:List DV) (K:DV->List DV->M β):M β:=match cs with|d::r=>K d r|[]=>fail
def aL (cs:List DV) (K:M β):M β:=match cs with|[]=>K|_=>fail
def Mi (n:Nat) (cs:List DV) (K:List DV->List DV->M β):M β:=bif Nat.ble n cs.length then K (cs.take n) (cs.drop n)else fail
def fe (cs:List DV) (i:Nat) (K:DV->M β):M β:=match cs[i]? with|some d=>K d|none=>fail
def bK (ds:List DV) (n:Nat) (K:M β):M β:=bif Nat.beq ds.length n then K else fail
def oK (pn:M β) (d:DV) (t:Nat) (K:DV->M β):M β:=match d with| .iface t' v=>bif Nat.beq t' t then K v else pn| .nilIface=>pn|_=>fail
def na:List DV->Option (List UInt8)
 |[]=>some []
 | .int .u8 n::r=>(na r).map (UInt8.ofNat n.toNat:: ·)
 |_=>none
def gI (cs:List DV) (K:List UInt8->M β):M β:=match na cs with|some l=>K l|none=>fail
def ko (st:List DV) (K:Bool->List DV->M β):M β:=im st λd r=>p7 d λx=>K x r
def az (k:IntKind) (st:List DV) (K:Int->List DV->M β):M β:=im st λd r=>dj k d λx=>K x r
def gY (st:List DV) (K:List UInt8->List DV->M β):M β:=im st λd r=>Bn d λx=>K x r
def eW (st:List DV) (K:Option (Nat×Nat)->List DV->M β):M β:=im st λd r=>uI d λx=>K x r
def cj (sz:Nat) (st:List DV) (K:Option (Nat×Nat)->Nat->List DV->M β):M β:=im st λd r=>bJ sz d λa n=>K a n r
def Bo (st:List DV) (K:Nat->List DV->List DV->List DV->M β):M β:=im st λd r=>Mj d λg f c=>K g f c r
def bW (st:List DV) (K:List DV->List DV->M β):M β:=im st λd r=>nZ d λx=>K x r
def O2 (st:List DV) (K:Nat->List DV->M β):M β:=im st λd r=>O0 d λx=>K x r
def O1 (st:List DV) (K:DV->List DV->M β):M β:=im st K
inductive B where
 |bool|int (k:IntKind)|str|ptr|slice (sz:Nat)|func|any|gR (n:Nat)
abbrev B.i:=B.int .i64
abbrev B.w:=B.int .u64
abbrev B.u:=B.int .u8
abbrev B.y:=B.int .u32
inductive Sh where
 |b (x:B)
 |agg (l:List B)
def d1 (x:B) (d:DV) (K:DV->M β):M β:=
 match x with
 | .bool=>p7 d λb=>K (.bool b)
 | .int k=>dj k d λn=>K (.int k n)
 | .str=>Bn d λs=>K (.str s)
 | .ptr=>uI d λa=>K (.ptr a)
 | .slice sz=>bJ sz d λa n=>K (.slice sz a n)
 | .func=>Mj d λg f c=>K (.func g f c)
 | .any=>K d
 | .gR _=>fail
def kl:List B->List DV->(List DV->M β)->M β
 |[],cs,K=>aL cs (K [])
 |[.gR n],cs,K=>bK cs n (K cs)
 | .gR n::r,cs,K=>Mi n cs λxs rest=>kl r rest λds=>K (xs++ds)
 |x::r,cs,K=>im cs λd rest=>d1 x d λd'=>kl r rest λds=>K (d'::ds)
def tj (x:Sh) (d:DV) (K:DV->M β):M β:=
 match x with
 | .b x=>d1 x d K
 | .agg l=>nZ d λcs=>kl l cs λds=>K (.agg ds)
def uL:List Sh->List DV->(List DV->M β)->M β
 |[],cs,K=>aL cs (K [])
 |x::r,cs,K=>im cs λd rest=>tj x d λd'=>uL r rest λds=>K (d'::ds)
def glue:List B->List B
 |[]=>[]
 | .gR n::r=>match glue r with
  | .gR m::r'=> .gR (n+m)::r'
  |r'=> .gR n::r'
 |x::r=>x::glue r
def Fi (P:Program):Nat->TypeId->List B
 |0,_=>[.any]
 |n+1,t=>
  match P.underlying t with
  |some .bool=>[.bool]
  |some (.int k)=>[.int k]
  |some .string=>[.str]
  |some (.pointer _)=>[.ptr]
  |some (.slice e)=>[.slice (P.cellsOf e)]
  |some (.func _ _ _)=>[.func]
  |some (.array m e)=>bif Nat.ble (m*P.cellsOf e) 8 then(List.replicate m (Fi P n e)).flatten else[.gR (m*P.cellsOf e)]
  |some (.struct fs)=>glue (fs.toList.flatMap λf=>Fi P n f.type)
  |_=>[.any]
def ZW (P:Program) (t:TypeId):Bool:=
 match P.underlying t with
 |some (.struct _)|some (.array _ _)=>true
 |_=>false
def jG (P:Program) (t:TypeId):Sh:=
 bif ZW P t then .agg (Fi P 20 t)else
 match Fi P 1 t with
 |[x]=> .b x
 |_=> .b .any
def Q2 (P:Program) (t:TypeId):Bool×List Sh:=
 match P.underlying t with
 |some (.tuple ts)=>(true,ts.toList.map (jG P))
 |_=>(false,[jG P t])
structure aY where
 P:Program
 fn:Nat->Nat
 cov:Nat->Bool
 ty:Nat->Nat
 gl:Nat->Nat
 uO:Nat->Bool
 wq:Nat->List B
 mp:Nat->Bool
def vi:Value->Option DV
 | .bool b=>some (.bool b)
 | .int k n=>some (.int k n)
 | .string s=>some (.str s.data.toList)
 | .pointer none=>some (.ptr none)
 | .slice none 0 0=>some (.slice 0 none 0)
 | .nilFunc=>some .nilFunc
 | .nilIface=>some .nilIface
 |_=>none
def Bi:List Value->Option (List DV)
 |[]=>some []
 |v::r=>match vi v,Bi r with
  |some d,some ds=>some (d::ds)
  |_,_=>none
inductive dz where
 |u
 |un
 |v (d:DV)
 |lL (ds:List DV)
 |loc (v n:Nat) (cs:List DV)
 |pl (r v o:Nat)
 |it (v:Nat) (s:List UInt8) (pos:Nat)
structure Env where
 bq:Nat
 l:List (Nat×dz)
def look:List (Nat×dz)->Nat->dz
 |[],_=> .u
 |(k,e)::r,t=>bif Nat.beq k t then e else look r t
def Env.get (E:Env) (t:Nat):dz:=look E.l t
def Env.put (E:Env) (t:Nat) (e:dz):Env:=⟨E.bq,(t,e)::E.l⟩
def Env.dI (E:Env) (t:Option Nat) (e:dz):Env:=match t with|some t=>E.put t e|none=>E
def has:List Nat->Nat->Bool
 |[],_=>false
 |k::r,t=>Nat.beq k t||has r t
def yK:List (Nat×dz)->List Nat->List (Nat×dz)
 |[],_=>[]
 |(k,e)::r,ts=>bif has ts k then yK r ts else(k,e)::yK r ts
def Env.del (E:Env) (ts:List Nat):Env:=⟨E.bq,yK E.l ts⟩
def Env.src (C:aY) (E:Env):Operand->dz
 | .tmp t=>match E.get t with
  | .loc v _ _=> .pl t v 0
  | .it _ _ _=> .u
  |e=>e
 | .const v=>(match vi v with|some d=> .v d|none=> .u)
 | .global g=>bif C.uO g then .v (.ptr (some (C.gl g,0)))else .u
 | .func f=>bif C.cov f then .v (.func (C.fn f) [] [])else .u
def dQ (C:aY) (E:Env) (x:Operand) (K:DV->M β):M β:=
 match E.src C x with
 | .v d=>K d
 |_=>fail
def tZ (C:aY) (E:Env):List Operand->(List DV->M β)->M β
 |[],K=>K []
 |x::r,K=>dQ C E x λd=>tZ C E r λds=>K (d::ds)
def ET (E:Env) (r v:Nat) (K:Nat->List DV->M β):M β:=
 match E.get r with
 | .loc v' n cs=>bif Nat.beq v' v then K n cs else fail
 |_=>fail
def wg (C:aY) (E:Env) (x:Operand) (KL:Nat->Nat->Nat->M β) (KH:Nat->Nat->M β):M β:=
 match E.src C x with
 | .pl r v o=>KL r v o
 | .v (.ptr a)=>aF a KH
 |_=>fail
def vb (C:aY) (E:Env) (x:Operand) (K:Int->M β):M β:=dQ C E x λd=>match d with| .int _ n=>K n|_=>fail
def Mz (C:aY) (E:Env) (x:Operand) (K:Bool->M β):M β:=dQ C E x λd=>match d with| .bool b=>K b|_=>fail
def uM:B->DV->DV->Option Bool
 | .bool,.bool a,.bool b=>some (a==b)
 | .int k0,.int k a,.int k' b=>bif pd k0 k&&pd k k' then some (a==b)else none
 | .str,.str a,.str b=>some (a==b)
 |_,_,_=>none
def jR:List B->List DV->List DV->Option Bool
 |[],[],[]=>some true
 |k::ks,a::r,b::r'=>match uM k a b,jR ks r r' with
  |some x,some y=>some (x&&y)
  |_,_=>none
 |_,_,_=>none
def Rk (ag:List B) (xs ys:List DV) (K:Bool->M β):M β:=match jR ag xs ys with|some b=>K b|none=>fail
def Ft (u:Option TypeDesc) (ag:List B) (a b:DV) (K:Bool->M β):M β:=
 match a,b with
 | .bool x,.bool y=>(match u with|some .bool=>K (x==y)|_=>fail)
 | .int k x,.int k' y=>bif pd k k' then K (x==y)else fail
 | .str x,.str y=>K (x==y)
 | .ptr x,.ptr none=>(match u with|some (.pointer _)=>K x.isNone|_=>fail)
 | .ptr none,.ptr x=>(match u with|some (.pointer _)=>K x.isNone|_=>fail)
 | .slice _ x _,.slice _ none _=>(match u with|some (.slice _)=>K x.isNone|_=>fail)
 | .slice _ none _,.slice _ x _=>(match u with|some (.slice _)=>K x.isNone|_=>fail)
 | .agg xs,.agg ys=>(match ag with|[]=>fail|k::ks=>(match jR (k::ks) xs ys with|some b=>K b|none=>fail))
 |_,_=>fail
def aq (n:Int):Int:=IntKind.i64.wrap n
def bits (op:BinOp) (k:IntKind) (x y:Int):Int:=
 let a:=BitVec.ofInt k.bits x
 let b:=BitVec.ofInt k.bits y
 match op with
 | .and=>k.wrap (a&&& b).toNat
 | .or=>k.wrap (a|||b).toNat
 | .xor=>k.wrap (a^^^b).toNat
 |_=>k.wrap (a&&& ~~~b).toNat
def strLt:List UInt8->List UInt8->Bool:=Op.bytesLess
def Pg (u:Option TypeDesc) (ag:List B) (op:BinOp) (a b:DV) (K:DV->M β):M β:=
 match op with
 | .eql=>Ft u ag a b λr=>K (.bool r)
 | .neq=>Ft u ag a b λr=>K (.bool !r)
 | .shl=>match a,b with
  | .int k x,.int _ y=>aJ (decide (0<=y)) (K (.int k (k.wrap (x*2^(min y.toNat k.bits)))))
  |_,_=>fail
 | .shr=>match a,b with
  | .int k x,.int _ y=>aJ (decide (0<=y)) (K (.int k (x.fdiv (2^(min y.toNat k.bits)))))
  |_,_=>fail
 |op=>match a,b with
  | .int k x,.int k' y=>bif pd k k' then
    match op with
    | .add=>K (.int k (k.wrap (x+y)))
    | .sub=>K (.int k (k.wrap (x-y)))
    | .mul=>K (.int k (k.wrap (x*y)))
    | .quo=>aJ (!(y==0)) (K (.int k (k.wrap (x.tdiv y))))
    | .rem=>aJ (!(y==0)) (K (.int k (x.tmod y)))
    | .and| .or| .xor| .andNot=>K (.int k (bits op k x y))
    | .lss=>K (.bool (decide (x<y)))
    | .leq=>K (.bool (decide (x<=y)))
    | .gtr=>K (.bool (decide (x>y)))
    | .geq=>K (.bool (decide (x>=y)))
    |_=>fail
   else fail
  | .str x,.str y=>
   match op with
   | .add=>aJ (Nat.ble (x.length+y.length) 4611686018427387904) (K (.str (x++y)))
   | .lss=>K (.bool (strLt x y))
   | .leq=>K (.bool (strLt x y||x==y))
   | .gtr=>K (.bool !(strLt x y||x==y))
   | .geq=>K (.bool !(strLt x y))
   |_=>fail
  |_,_=>fail
def unK (op:UnOp) (a:DV) (K:DV->M β):M β:=
 match op,a with
 | .not,.bool b=>K (.bool !b)
 | .neg,.int k n=>K (.int k (k.wrap (0-n)))
 |_,_=>fail
def bL (i:Int) (n:Nat):Bool:=decide (0<=i)&&decide (i<n)
def yy (s:List UInt8) (i:Int):Int:=((s.getD i.toNat 0).toNat:Int)
def ZR (s:List UInt8):List DV:=s.map λb=> .int .u8 b.toNat
def enc (n:Int):List UInt8:=(Utf8.encode n).data.toList
def dec (s:List UInt8) (i:Nat):Nat×Nat:=
 let at' (k:Nat):Nat:=(s.getD (i+k) 0).toNat
 let cont (k:Nat):Bool:=decide (i+k<s.length)&&at' k/64==2
 let b0:=at' 0
 if b0<0x80 then(b0,1)
 else if b0/32==6&&cont 1 then
  let c:=(b0%32)*64+at' 1%64
  if c>=0x80 then(c,2)else(Utf8.runeError,1)
 else if b0/16==14&&cont 1&&cont 2 then
  let c:=(b0%16)*4096+(at' 1%64)*64+at' 2%64
  if c>=0x800&&Utf8.valid c then(c,3)else(Utf8.runeError,1)
 else if b0/8==30&&cont 1&&cont 2&&cont 3 then
  let c:=(b0%8)*262144+(at' 1%64)*4096+(at' 2%64)*64+at' 3%64
  if c>=0x10000&&Utf8.valid c then(c,4)else(Utf8.runeError,1)
 else(Utf8.runeError,1)
def wb (s:List UInt8) (i:Nat):Int:=((dec s i).1:Int)
def pg (s:List UInt8) (i:Nat):Nat:=(dec s i).2
def fp (n:Nat) (z:List DV):List DV:=(List.replicate n z).flatten
def q9 (P:Program) (t:TypeId):Option TypeId:=match P.underlying t with|some (.slice e)=>some e|_=>none
def EB (P:Program) (t:TypeId):Nat:=match P.info? t with|some i=>i.bytes|none=>0
def ve (P:Program) (e:TypeId):Nat:=70368744177664/(EB P e)
def jO (P:Program) (t:TypeId):Option (List DV):=match P.info? t with|some i=>(match i.zero with|some z=>Bi z.cells.toList|none=>none)|none=>none
def one:DV->Bool
 | .agg _=>false
 |_=>true
def mI (P:Program) (t:TypeId) (K:M β):M β:=match P.underlying t with|some _=>K|none=>fail
def EU (P:Program) (t:TypeId) (d:DV) (K:List DV->M β):M β:=
 mI P t (bif ZW P t then(match d with| .agg cs=>bK cs (P.cellsOf t) (K cs)|_=>fail)
  else bif Nat.beq (P.cellsOf t) 1 then aJ (one d) (K [d])else fail)
def se (n m:Nat) (cs:List DV) (p:Nat) (ds:List DV):List DV:=bif Nat.beq m n&&Nat.beq p 0 then ds else cT cs p ds
def vd (E:Env) (C:aY) (N:Nat) (place:Nat->Option (Nat×Nat)):List (Nat×Operand)->List DV->(List DV->M β)->M β
 |[],cs,K=>K cs
 |(i,x)::r,cs,K=>match place i with
  |none=>fail
  |some (o,n)=>bif Nat.ble (o+n) N then dQ C E x λd=>
   match d with
   | .agg ds=>bK ds n (vd E C N place r (se N n cs o ds) K)
   |d=>bif Nat.beq n 1 then aJ (one d) (vd E C N place r (cT cs o [d]) K)else fail
   else fail
def LN (P:Program) (t:TypeId):Nat->Option (Nat×Nat):=
 match P.underlying t with
 |some (.struct fs)=>λi=>match fs[i]? with|some f=>some (f.offset,P.cellsOf f.type)|none=>none
 |some (.array _ e)=>λi=>some (i*P.cellsOf e,P.cellsOf e)
 |_=>λ_=>none
def ZoH (P:Program) (t:TypeId):Bool:=
 match P.underlying t with
 |some (.struct fs)=>fs.toList.all λf=>(P.info? f.type).isSome
 |some (.array _ e)=>(P.info? e).isSome
 |_=>false
def EI (pr:List Nat) (o:Oper) (n:Nat) (cells:List DV) (E:Env) (K:Env->M β):M β:=
 match o.dst with
 |some t=>bif has pr t then K ⟨E.bq+1,(t,.loc E.bq n cells)::E.l⟩else bH cells λi=>K (E.put t (.v (.ptr (some (i,0)))))
 |none=>fail
def A8 (C:aY) (E:Env) (len:Nat) (lo hi:Option Operand) (K:Nat->Nat->M β):M β:=
 let low (h:Nat):M β:=match lo with
  |none=>K 0 h
  |some x=>vb C E x λl=>aJ (decide (0<=l)&&decide (l<=h)) (K l.toNat h)
 match hi with
 |none=>low len
 |some x=>vb C E x λh=>aJ (decide (0<=h)&&decide (h<=len)) (low h.toNat)
def yI (lo hi:Bool) (s:List UInt8) (l h:Nat):List UInt8:=
 bif hi then(bif lo then(s.take h).drop l else s.take h)else(bif lo then s.drop l else s)
def cR (lo:Bool) (a:Option (Nat×Nat)) (k:Nat):Option (Nat×Nat):=bif lo then(match a with|some (i,o)=>some (i,k+o)|none=>none)else a
def Bw (lo:Bool) (l h:Nat):Nat:=bif lo then h-l else h
def part (n:Nat) (cs:List DV) (p m:Nat):List DV:=bif Nat.beq m n&&Nat.beq p 0 then cs else(cs.drop p).take m
def nG (pr:List Nat):List Oper->Nat->Nat->Option Nat
 |_,0,_=>none
 |ops,n+1,t=>bif has pr t then some t else
  match ops.find? λo=>match o.dst with|some d=>Nat.beq d t|none=>false with
  |some o=>match o.op with
   | .fieldAddr _ (.tmp u) _| .indexAddr _ (.tmp u) _| .move (.tmp u)| .nilCheck (.tmp u)=>nG pr ops n u
   |_=>none
  |none=>none
def rZ (pr:List Nat) (ops:List Oper):List Oper->List Nat
 |[]=>[]
 |o::r=>
  let m:=rZ pr ops r
  let m:=match o.dst with|some d=>d::m|none=>m
  match o.op with
  | .store _ (.tmp a) _=>match nG pr ops 12 a with|some t=>t::m|none=>m
  | .next (.tmp t) _=>t::m
  |_=>m
def jn (pr:List Nat):Code->List Nat
 | .region _ ops _=>rZ pr ops.toList ops.toList
 | .seq a b| .cond _ a b=>jn pr a++jn pr b
 | .block _ b| .loop b| .scope b=>jn pr b
 |_=>[]
inductive jf where
 |pure|hp|wr|call|qE (r:Nat)|lb (r:Nat)
 |lp (a:Nat)|ap (bs:List Nat)
inductive Md where
 |s
 |d (k:jf) (x:Nat)
def Md.loc:Md->Nat->Bool
 | .s,_=>true
 | .d (.qE q) _,r=>Nat.beq q r
 | .d (.lb q) _,r=>Nat.beq q r
 |_,_=>false
def Md.Fu:Md->Bool
 | .s=>true
 | .d (.qE _) _=>false
 | .d (.lb _) _=>false
 |_=>true
def Md.x:Md->Nat
 | .s=>0
 | .d _ x=>x
def cls (P:Program) (pr:List Nat) (ops:List Oper) (o:Oper):jf:=
 match o.op with
 | .load _ (.tmp a)=>match nG pr ops 12 a with|some r=> .qE r|none=> .lp a
 | .load _ _=> .hp
 | .store _ (.tmp a) _=>match nG pr ops 12 a with|some r=> .lb r|none=> .ap []
 | .store .. => .wr
 | .alloc _| .box _ _| .buildSlice .. | .makeSlice .. | .convert .. | .range .. => .hp
 | .slice t .. =>match P.underlying t with|some (.array _ _)=> .hp|_=> .pure
 | .move _| .assign _| .pick .. | .build .. | .nilCheck _| .binOp .. | .unOp .. | .fieldAddr .. | .field .. | .indexAddr .. | .index .. | .extract .. | .makeInterface .. | .makeFunc .. => .pure
 | .call q=>match q.callee with
  | .builtin .len| .builtin .min| .builtin .max=> .pure
  | .builtin .append=> .ap []
  | .value _=>bif has pr 1000000 then .ap []else .call
  |_=> .wr
 | .next (.tmp t) _=> .lb t
 |_=> .wr
section
variable (C:aY) (E:Env) (o:Oper) (K:Env->M β)
def dx (d:DV):M β:=K (E.dI o.dst (.v d))
def tT (e:dz):M β:=K (E.dI o.dst e)
def LZ (b y z:Operand):M β:=Mz C E b λb=>bif b then tT E o K (E.src C y)else tT E o K (E.src C z)
def Lq (pr:List Nat) (t:TypeId):M β:=
 match jO C.P t with
 |some z=>bif Nat.beq z.length (C.P.cellsOf t)then EI pr o (C.P.cellsOf t) z E K else fail
 |none=>fail
def Ou (pr:List Nat) (t:TypeId) (y:Operand):M β:=dQ C E y λd=>EU C.P t d λcs=>EI pr o (C.P.cellsOf t) cs E K
def LF (t:TypeId) (ps:Array (Nat×Operand)):M β:=
 match jO C.P t with
 |some z=>bif ZoH C.P t then vd E C z.length (LN C.P t) ps.toList z λcs=>dx E o K (.agg cs)else fail
 |none=>fail
def Kb (t:TypeId) (len:Nat) (ps:Array (Nat×Operand)):M β:=
 match q9 C.P t with
 |some e=>match jO C.P e with
  |some z=>bif Nat.ble (len*C.P.cellsOf e) 100000&&Nat.beq z.length (C.P.cellsOf e)then
    vd E C (len*C.P.cellsOf e) (λi=>some (i*C.P.cellsOf e,C.P.cellsOf e)) ps.toList (fp len z) λcs=>
     bH cs λi=>dx E o K (.slice (C.P.cellsOf e) (some (i,0)) len)
    else fail
  |none=>fail
 |none=>fail
def EV (md:Md) (t:TypeId) (a:Operand):M β:=
 mI C.P t (wg C E a
  (λr v p=>bif md.loc r then ET E r v λn cs=>
   match jG C.P t with
   | .b y=>fe cs p λd=>d1 y d (dx E o K)
   | .agg _=>aJ (Nat.ble (p+C.P.cellsOf t) n) (dx E o K (.agg (part n cs p (C.P.cellsOf t))))
   else fail)
  (λi p=>bif md.Fu then
   match jG C.P t with
   | .b y=>bc i p λd=>d1 y d (dx E o K)
   | .agg l=>bP i p (C.P.cellsOf t) λcs=>kl l cs λds=>dx E o K (.agg ds)
   else fail))
def Lx (md:Md) (ms:List Nat) (t:TypeId) (a y:Operand):M β:=
 dQ C E y λd=>EU C.P t d λds=>wg C E a
  (λr v p=>bif has ms r&&md.loc r then ET E r v λn cs=>aJ (Nat.ble (p+C.P.cellsOf t) n) (K (E.put r (.loc v n (se n (C.P.cellsOf t) cs p ds))))else fail)
  (λi p=>bif md.Fu then bB i p ds (K E)else fail)
def Km (y:Operand):M β:=wg C E y (λr v p=>tT E o K (.pl r v p)) (λi p=>dx E o K (.ptr (some (i,p))))
def Ot (op:BinOp) (t:TypeId) (y z:Operand):M β:=dQ C E y λa=>dQ C E z λb=>Pg (C.P.underlying t) (C.wq t) op a b (dx E o K)
def Ow (op:UnOp) (y:Operand):M β:=dQ C E y λa=>unK op a (dx E o K)
def Gx (P:Program) (e:TypeId):Bool:=match P.underlying e with|some (.int .u8)=>true|_=>false
def KX (s t:TypeId) (y:Operand):M β:=
 mI C.P s (match C.P.underlying t with
  |some (.int k)=>dQ C E y λd=>(match d with| .int _ n=>dx E o K (.int k (k.wrap n))|_=>fail)
  |some .string=>(match C.P.underlying s with
   |some (.int _)=>dQ C E y λd=>(match d with| .int _ n=>dx E o K (.str (enc n))|_=>fail)
   |some .string=>dQ C E y λd=>(match d with| .str l=>dx E o K (.str l)|_=>fail)
   |some (.slice e)=>bif Gx C.P e then dQ C E y λd=>(match d with
    | .slice z a n=>bif Nat.beq z 1||a.isNone then gJ a n λcs=>gI cs λl=>dx E o K (.str l)else fail
    |_=>fail)else fail
   |_=>fail)
  |some (.slice e)=>bif Gx C.P e then dQ C E y λd=>(match d with
    | .str l=>bH (ZR l) λi=>dx E o K (.slice 1 (some (i,0)) l.length)
    |_=>fail)else fail
  |_=>fail)
def LV (t:TypeId) (y:Operand):M β:=
 match C.P.underlying t with
 |some (.interface _)=>fail
 |some _=>dQ C E y λd=>dx E o K (.iface (C.ty t) d)
 |none=>fail
def Mh (f:Fn) (first cap:Array Operand):M β:=
 match f with
 | .func f=>bif C.cov f then tZ C E first.toList λfs=>tZ C E cap.toList λcs=>dx E o K (.func (C.fn f) fs cs)else fail
 |_=>fail
def J6 (t:TypeId) (l c:Operand):M β:=
 match q9 C.P t with
 |some e=>match jO C.P e with
  |some z=>bif Nat.beq z.length (C.P.cellsOf e)then vb C E l λn=>vb C E c λm=>
    aJ (decide (0<=n)&&decide (n<=m)&&decide (m<=ve C.P e)) (bH (fp n.toNat z) λi=>dx E o K (.slice (C.P.cellsOf e) (some (i,0)) n.toNat))else fail
  |none=>fail
 |none=>fail
def LA (t:TypeId) (y:Operand) (lo hi:Option Operand):M β:=
 match C.P.underlying t with
 |some .string=>dQ C E y λd=>(match d with
  | .str s=>A8 C E s.length lo hi λl h=>dx E o K (.str (yI lo.isSome hi.isSome s l h))
  |_=>fail)
 |some (.slice e)=>mI C.P e (dQ C E y λd=>(match d with
  | .slice z a n=>bif Nat.beq z (C.P.cellsOf e)||a.isNone then A8 C E n lo hi λl h=>dx E o K (.slice z (cR lo.isSome a (l*C.P.cellsOf e)) (Bw lo.isSome l h))else fail
  |_=>fail))
 |some (.array m e)=>mI C.P e (dQ C E y λd=>(match d with
  | .ptr a=>aF a λi p=>bP i p (m*C.P.cellsOf e) λ_=>A8 C E m lo hi λl h=>dx E o K (.slice (C.P.cellsOf e) (cR lo.isSome (some (i,p)) (l*C.P.cellsOf e)) (Bw lo.isSome l h))
  |_=>fail))
 |_=>fail
def DS (t:TypeId) (y:Operand) (f:Nat):M β:=
 match C.P.underlying t with
 |some (.struct fs)=>(match fs[f]? with
  |some f=>bif Nat.beq (C.P.cellsOf f.type) 0 then fail else wg C E y (λr v p=>tT E o K (.pl r v (p+f.offset))) (λi p=>dx E o K (.ptr (some (i,p+f.offset))))
  |none=>fail)
 |_=>fail
def Ly (t:TypeId) (y:Operand) (f:Nat):M β:=
 match C.P.underlying t with
 |some (.struct fs)=>(match fs[f]? with
  |some f=>mI C.P f.type (dQ C E y λd=>(match d with
   | .agg cs=>bif ZW C.P f.type then dx E o K (.agg ((cs.drop f.offset).take (C.P.cellsOf f.type)))else fe cs f.offset λd=>tj (jG C.P f.type) d (dx E o K)
   |_=>fail))
  |none=>fail)
 |_=>fail
def JN (t:TypeId) (y i:Operand):M β:=
 vb C E i λn=>match C.P.underlying t with
 |some (.slice e)=>mI C.P e (dQ C E y λd=>(match d with
  | .slice z a m=>bif Nat.beq z (C.P.cellsOf e)||a.isNone then aF a λj p=>aJ (bL n m) (dx E o K (.ptr (some (j,n.toNat*C.P.cellsOf e+p))))else fail
  |_=>fail))
 |some (.array m e)=>mI C.P e (wg C E y
  (λr v p=>aJ (bL n m) (tT E o K (.pl r v (n.toNat*C.P.cellsOf e+p))))
  (λj p=>aJ (bL n m) (dx E o K (.ptr (some (j,n.toNat*C.P.cellsOf e+p))))))
 |_=>fail
def LS (t:TypeId) (y i:Operand):M β:=
 vb C E i λn=>dQ C E y λd=>match C.P.underlying t,d with
 |some .string,.str s=>aJ (bL n s.length) (dx E o K (.int .u8 (yy s n)))
 |some (.array m e),.agg cs=>mI C.P e (aJ (bL n m) (bif ZW C.P e then dx E o K (.agg ((cs.drop (n.toNat*C.P.cellsOf e)).take (C.P.cellsOf e)))else fe cs (n.toNat*C.P.cellsOf e) λd=>tj (jG C.P e) d (dx E o K)))
 |_,_=>fail
def LB (t:TypeId) (y:Operand):M β:=
 match C.P.underlying t with
 |some .string=>dQ C E y λd=>match d,o.dst with
  | .str s,some t=>K ⟨E.bq+1,(t,.it E.bq s 0)::E.l⟩
  |_,_=>fail
 |_=>fail
def Me (ms:List Nat) (t:Nat):M β:=
 match E.get t,o.dst with
 | .it v s p,some d=>bif Nat.beq d t|| !has ms t then fail else
   bif Nat.blt p s.length then K ((E.put t (.it v s (p+pg s p))).put d (.lL [.bool true,.int .i64 p,.int .i32 (wb s p)]))
   else K (E.put d (.lL [.bool false]))
 |_,_=>fail
def CN (md:Md):M β:=bif Nat.beq md.x 0 then ta else fail
def Lh (md:Md) (t:TypeId) (y:Operand):M β:=
 match C.P.underlying t with
 |some (.interface _)=>fail
 |some _=>dQ C E y λd=>oK (CN md) d (C.ty t) λd=>tj (jG C.P t) d (dx E o K)
 |none=>fail
def KZ (t i:Nat):M β:=
 match E.get t with
 | .lL ds=>(match ds[i]? with|some d=>dx E o K d|none=>fail)
 |_=>fail
def LD (md:Md) (y:Operand):M β:=dQ C E y λd=>match d with| .iface _ _=>CN md|_=>fail
noncomputable def Fo (md:Md) (m:M (List DV)) (K:List DV->M β):M β:=
 match md.x with
 |0=>cK m K
 |1=>p8 m K
 |_=>nf m K
def Md.bs:Md->List Nat
 | .d (.ap bs) _=>bs
 |_=>[]
noncomputable def yG (E:Env):List Nat->M (List DV)->M (List DV)
 |[],m=>m
 |b::r,m=>match E.get b with
  | .v (.ptr (some (i,_)))=>Bp i (yG E r m)
  |_=>fail
noncomputable def Ma (md:Md) (c:Zd) (f:Operand) (as:Array Operand):M β:=
 dQ C E f λfv=>tZ C E as.toList λas=>match fv with
 | .func g fs cs=>match Q2 C.P o.type with
  |(true,CV)=>bif Nat.beq CV.length 1 then fail else Fo md (yG E md.bs (c g (fs++as++cs))) λds=>uL CV ds λds=>tT E o K (.lL ds)
  |(false,CV)=>Fo md (yG E md.bs (c g (fs++as++cs))) λds=>uL CV ds λds=>match ds with|[d]=>dx E o K d|_=>fail
 |_=>fail
def Ov (ts:Array TypeId) (as:Array Operand):M β:=
 match as.toList,ts[0]? with
 |[y],some t=>(match C.P.underlying t with
  |some (.array m _)=>dx E o K (.int .i64 m)
  |some .string=>dQ C E y λd=>(match d with| .str s=>dx E o K (.int .i64 s.length)|_=>fail)
  |some (.slice _)=>dQ C E y λd=>(match d with| .slice _ _ n=>dx E o K (.int .i64 n)|_=>fail)
  |_=>fail)
 |_,_=>fail
def Om (P:Program) (ts:Array TypeId) (K:M β):M β:=
 match ts[1]? with
 |none=>K
 |some t=>match P.underlying t with
  |some (.int _)=>fail
  |some _=>K
  |none=>fail
def K4 (ts:Array TypeId) (as:Array Operand):M β:=
 match as.toList,ts[0]? with
 |[y,z],some t=>(match q9 C.P t with
  |some e=>mI C.P e (Om C.P ts (match jO C.P e with
   |some zv=>bif !Nat.beq zv.length (C.P.cellsOf e)then fail else dQ C E y λa=>dQ C E z λb=>(match a,b with
    | .slice w p n,.slice w' p' m=>bif (Nat.beq w (C.P.cellsOf e)||p.isNone)&&(Nat.beq w' (C.P.cellsOf e)||p'.isNone)then
      gJ p' (m*C.P.cellsOf e) λds=>cB (C.P.cellsOf e) p n ds m (ve C.P e) λzN=>dx E o K (.slice (C.P.cellsOf e) zN (n+m))else fail
    | .slice w p n,.str l=>bif (Nat.beq w 1||p.isNone)&&Nat.beq (C.P.cellsOf e) 1 then cB 1 p n (ZR l) l.length (ve C.P e) λzN=>dx E o K (.slice 1 zN (n+l.length))else fail
    |_,_=>fail)
   |none=>fail))
  |none=>fail)
 |_,_=>fail
def L9 (ts:Array TypeId) (as:Array Operand):M β:=
 match as.toList,ts[0]? with
 |[y,z],some t=>(match q9 C.P t with
  |some e=>mI C.P e (dQ C E y λa=>dQ C E z λb=>(match a,b with
   | .slice w p n,.slice w' p' m=>bif (Nat.beq w (C.P.cellsOf e)||p.isNone)&&(Nat.beq w' (C.P.cellsOf e)||p'.isNone)then gJ p' (min m n*C.P.cellsOf e) λds=>we p ds (dx E o K (.int .i64 (min m n)))else fail
   | .slice w p n,.str l=>bif (Nat.beq w 1||p.isNone)&&Nat.beq (C.P.cellsOf e) 1 then we p (ZR (l.take n)) (dx E o K (.int .i64 (min l.length n)))else fail
   |_,_=>fail))
  |none=>fail)
 |_,_=>fail
def GI (mx:Bool) (as:Array Operand):M β:=
 match as.toList with
 |[y,z]=>dQ C E y λa=>dQ C E z λb=>(match a,b with
  | .int k a,.int k' b=>bif pd k k' then dx E o K (.int k (bif mx then(if a<b then b else a)else(if b<a then b else a)))else fail
  |_,_=>fail)
 |_=>fail
def Lz (ts:Array TypeId) (as:Array Operand):M β:=
 match as.toList,ts[0]? with
 |[y],some t=>(match q9 C.P t with
  |some e=>dQ C E y λa=>(match a,jO C.P e with
   | .slice w p n,some z=>bif (Nat.beq w (C.P.cellsOf e)||p.isNone)&&Nat.beq z.length (C.P.cellsOf e)then we p (fp n z) (tT E o K (.lL []))else fail
   |_,_=>fail)
  |none=>fail)
 |_,_=>fail
end
def apart (p:Option (Nat×Nat)) (i:Nat):Bool:=match p with|some (j,_)=> !Nat.beq i j|none=>true
def Bv (E:Env) (p:Option (Nat×Nat)):List Nat->M β->M β
 |[],K=>K
 |b::r,K=>match E.get b with
  | .v (.ptr (some (i,_)))=>aJ (apart p i) (Bv E p r K)
  |_=>fail
def Mp (C:aY) (E:Env) (bs:List Nat) (as:Array Operand) (X:M β):M β:=
 match bs with
 |[]=>X
 |b::r=>match as.toList with
  |y::_=>dQ C E y λa=>(match a with| .slice _ p _=>Bv E p (b::r) X|_=>fail)
  |_=>fail
def OF (C:aY) (E:Env) (bs:List Nat) (a:Operand) (X:M β):M β:=
 match bs with
 |[]=>X
 |b::r=>match E.src C a with
  | .v (.ptr p)=>Bv E p (b::r) X
  |_=>fail
noncomputable def dW (C:aY) (pr ms:List Nat) (md:Md) (c:Zd) (o:Oper) (E:Env) (K:Env->M β):M β:=
 match o.op with
 | .move y| .assign y=>tT E o K (E.src C y)
 | .pick b y z=>LZ C E o K b y z
 | .alloc t=>Lq C E o K pr t
 | .box t y=>Ou C E o K pr t y
 | .build t ps=>LF C E o K t ps
 | .buildSlice t len ps=>Kb C E o K t len ps
 | .load t a=>EV C E o K md t a
 | .store t a y=>bif o.dst.isNone then OF C E md.bs a (Lx C E K md ms t a y)else fail
 | .nilCheck y=>Km C E o K y
 | .binOp op t y z _=>Ot C E o K op t y z
 | .unOp op _ y=>Ow C E o K op y
 | .convert s t y=>KX C E o K s t y
 | .makeInterface t y=>LV C E o K t y
 | .makeFunc f first cap=>Mh C E o K f first cap
 | .makeSlice t l c=>J6 C E o K t l c
 | .slice t y lo hi none=>LA C E o K t y lo hi
 | .fieldAddr t y f=>DS C E o K t y f
 | .field t y f=>Ly C E o K t y f
 | .indexAddr t y i=>JN C E o K t y i
 | .index t y i=>LS C E o K t y i
 | .range t y=>LB C E o K t y
 | .next (.tmp t) true=>Me E o K ms t
 | .typeAssert y _ t false=>Lh C E o K md t y
 | .extract (.tmp t) i=>KZ E o K t i
 | .panic y=>LD C E md y
 | .call q=>match q.callee with
  | .value f=>Ma C E o K md c f q.args
  | .builtin .len=>Ov C E o K q.argTypes q.args
  | .builtin .append=>Mp C E md.bs q.args (K4 C E o K q.argTypes q.args)
  | .builtin .copy=>L9 C E o K q.argTypes q.args
  | .builtin .min=>GI C E o K false q.args
  | .builtin .max=>GI C E o K true q.args
  | .builtin .clear=>Lz C E o K q.argTypes q.args
  |_=>fail
 |_=>fail
def tS (C:aY) (E:Env) (x:Operand) (K:Nat->Nat->M β):M β:=match E.src C x with
 | .v (.ptr (some (i,p)))=>K i p
 |_=>fail
def rr (i p:Nat) (K:IntKind->Int->M β):M β:=bc i p λd=>match d with
 | .int k n=>K k n
 |_=>fail
def fK (i p:Nat) (k:IntKind) (n:Int) (K:M β):M β:=bc i p λd=>match d with
 | .int k' n'=>bif pd k k'&&(n==n')then K else fail
 |_=>fail
def fg:List (Oper×Md)->List Nat
 |[]=>[]
 |(o,_)::r=>match o.dst with|some d=>d::fg r|none=>fg r
def vS (r:Nat):List (Oper×Md)->List (Oper×Md)->Option (List (Oper×Md)×Oper×List (Oper×Md))
 |_,[]=>none
 |acc,(o,x)::rest=>match o.op with
  | .pick (.tmp t) _ _=>bif Nat.beq t r then some (acc.reverse,o,rest)else vS r ((o,x)::acc) rest
  |_=>vS r ((o,x)::acc) rest
def FC:List (Nat×Bool)->Nat×Bool->Bool
 |[],_=>false
 |(k,b)::r,g=>(Nat.beq k g.1&&(b==g.2))||FC r g
def FD (act:List (Nat×Bool)):Option (Nat×Bool)->Bool
 |none=>true
 |some g=>FC act g
def wu (pr:List Nat) (dst:Nat->Option Nat) (j:Nat) (w:Bool) (r:Nat):List Nat->List (Oper×Md)->Bool
 |_,[]=>true
 |OE,(o,_)::rest=>
  (match o.op with
   | .store .. | .next .. | .range .. =>false
   | .alloc _| .box _ _=>(match o.dst with|some d=> !has pr d|none=>false)
   |_=>true)&&
  (match o.guard with
   |none=>false
   |some (j',w')=>(Nat.beq j' j&&(w'==w))||(match dst j' with|some d=>has OE d|none=>false))&&
  (match o.dst with
   |some d=> !Nat.beq d r&&wu pr dst j w r (d::OE) rest
   |none=>wu pr dst j w r OE rest)
noncomputable def nY (C:aY) (pr ms:List Nat) (c:Zd) (dst:Nat->Option Nat):Nat->List (Oper×Md)->List (Nat×Bool)->Env->(Env->M β)->M β
 |_,[],_,E,K=>K E
 |0,_::_,_,_,_=>fail
 |n+1,(o,x)::rest,act,E,K=>
  bif FD act o.guard then dW C pr ms x c o E λE'=>nY C pr ms c dst n rest act E' K
  else match o.guard with
   |none=>fail
   |some (j,w)=>match dst j with
    |none=>fail
    |some r=>match E.get r,vS r [] ((o,x)::rest)with
     | .v (.bool b),some (dw,pk,kB)=>match pk.op,pk.dst with
      | .pick _ y z,some t=>
       bif FD act pk.guard&&wu pr dst j w r [] dw then
        dU (λst=>im st λd st=>p7 d λv=>aL st (nY C pr ms c dst n kB act ((E.del (fg dw)).put t (.v (.bool v))) K))
         λjk=>
          let yes:M β:=nY C pr ms c dst n dw ((j,w)::act) (E.put r (.v (.bool w))) λE1=>dQ C E1 (bif w then y else z) λd=>jk [d]
          let no:M β:=dQ C ((E.del (fg dw)).put r (.v (.bool !w))) (bif w then z else y) λd=>jk [d]
          bif w then(bif b then yes else no)else(bif b then no else yes)
       else fail
      |_,_=>fail
     |_,_=>fail
def tf:jf->jf->Bool
 | .pure,_|_,.pure=>false
 | .lb r,.qE q| .qE r,.lb q| .lb r,.lb q=>Nat.beq r q
 | .qE _,_|_,.qE _| .lb _,_|_,.lb _=>false
 | .ap bs,.lp b| .lp b,.ap bs=> !has bs b
 | .wr,_|_,.wr| .ap _,_|_,.ap _=>true
 | .call,.call=>true
 |_,_=>false
def Mc:jf->jf->Bool
 | .ap _,.lp _=>true
 |k,k'=>tf k k'
structure eQ where
 bf:Nat
 k:jf
 dst:Option Nat
 lk:Nat
def yC (o:Oper) (acc:List Nat):Nat:=o.after.toList.foldl (λm e=>bif Region.binds .any e then m|||2^e.on|||acc.getD e.on 0 else m) 0
def mE (pr:List Nat) (ops:List Oper) (o:Oper):Nat:=
 let m:=o.op.operands.toList.foldl (λm x=>match x with| .tmp t=>m|||2^t|_=>m) 0
 let m:=match o.guard with
  |some (j,_)=>(match ops[j]? with|some g=>(match g.dst with|some t=>m|||2^t|none=>m)|none=>m)
  |none=>m
 match o.op with
 | .load _ (.tmp a)=>(match nG pr ops 12 a with|some r=>m|||2^r|none=>m)
 | .store _ (.tmp a) _=>(match nG pr ops 12 a with|some r=>m|||2^r|none=>m)
 |_=>m
def Bs (m:Nat):Nat->List Oper->List Nat
 |_,[]=>[]
 |j,o::r=>match o.op with
  | .load _ (.tmp b)=>bif m.testBit j then Bs m (j+1) r else b::Bs m (j+1) r
  |_=>Bs m (j+1) r
def rY (b:Nat) (o:Oper):Bool:=match o.op with
 | .load _ (.tmp a)=>Nat.beq a b
 |_=>false
def CD (b:Nat):List Oper->Bool
 |[]=>true
 |o::r=>bif rY b o then(o::r).all (λo=>match o.dst with|some d=> !Nat.beq d b|none=>true)else CD b r
def ph (pr:List Nat) (ops:List Oper) (k m:Nat):jf->jf
 | .ap _=> .ap ((Bs m 0 (ops.take k)).filter λb=>CD b (ops.take k)&&(nG pr ops 12 b).isNone)
 |c=>c
def mG (P:Program) (pr:List Nat) (ops:List Oper):List Oper->List Nat->List eQ
 |[],_=>[]
 |o::r,acc=>let b:=yC o acc;⟨b,ph pr ops acc.length b (cls P pr ops o),o.dst,mE pr ops o⟩::mG P pr ops r (acc++[b])
def Fp (d:Option Nat) (m:Nat):Bool:=match d with|some t=>m.testBit t|none=>false
def MJ (d e:Option Nat):Bool:=match d,e with|some t,some u=>Nat.beq t u|_,_=>false
def ER (i:Nat) (p:eQ):List eQ->Bool
 |[]=>true
 |q::r=>(q.bf.testBit i||(!Mc p.k q.k&& !Fp p.dst q.lk&& !Fp q.dst p.lk&& !MJ p.dst q.dst))&&ER i p r
def w8:Nat->List eQ->List Oper->Bool
 |_,[],_=>true
 |_,_::_,[]=>false
 |i,p::r,o::os=>Nat.blt p.bf (2^i)&&(match o.guard with|some (j,_)=>p.bf.testBit j|none=>true)&&ER i p r&&w8 (i+1) r os
def pQ (i bi:Nat) (f:jf->Bool):Nat->List eQ->Bool
 |_,[]=>false
 |j,q::r=>(!Nat.beq i j&& !q.bf.testBit i&& !bi.testBit j&&f q.k)||pQ i bi f (j+1) r
def zH:jf->Bool
 | .hp=>true
 | .lp _=>true
 |_=>false
def v8:jf->Bool
 | .pure=>true
 | .qE _=>true
 |_=>false
def uB (i bi:Nat):Nat->List eQ->Bool
 |_,[]=>false
 |j,q::r=>(!Nat.beq i j&& !q.bf.testBit i&& !bi.testBit j&& !(Nat.blt j i&&v8 q.k))||uB i bi (j+1) r
def Oj (mp:Nat->Bool) (o:Oper):Bool:=match o.op with
 | .call q=>(match q.callee with
  | .value (.func f)=>mp f
  |_=>false)
 |_=>false
def flags (mp:Nat->Bool) (all:List eQ):Nat->List eQ->List Oper->List (Oper×Md)
 |_,[],_=>[]
 |_,_,[]=>[]
 |i,p::r,o::os=>
  (o,.d p.k (bif pQ i p.bf (λ_=>true) 0 all then(bif Oj mp o&& !uB i p.bf 0 all then 0 else(match p.k with| .call=>(bif pQ i p.bf zH 0 all then 2 else 1)|_=>1))else 0))::flags mp all (i+1) r os
noncomputable def GN (C:aY) (pr:List Nat) (c:Zd) (ops:Array Oper) (draw:Bool) (E:Env) (K:Env->M β):M β:=
 let l:=ops.toList
 let ms:=rZ pr l l
 let dst (j:Nat):Option Nat:=match l[j]? with|some o=>o.dst|none=>none
 bif draw then
  let is:=mG C.P pr l l []
  bif w8 0 is l then nY C pr ms c dst l.length (flags C.mp is 0 is l) [] E K else fail
 else nY C pr ms c dst l.length (l.map λo=>(o,.s)) [] E K
inductive JS where
 |v (x:Sh)
 |l (x:List B)
 |t
inductive lS where
 |z
 |n (a b:lS)
 |j (J:List (Nat×JS)) (a b:lS)
def lS.a:lS->lS| .n a _=>a| .j _ a _=>a| .z=> .z
def lS.b:lS->lS| .n _ b=>b| .j _ _ b=>b| .z=> .z
def nj (E0 E:Env):List (Nat×JS)->(List DV->M β)->M β
 |[],K=>K []
 |(t,x)::r,K=>match x,E.get t with
  | .v _,.v d=>nj E0 E r λds=>K (d::ds)
  | .l _,.loc v _ cs=>(match E0.get t with| .loc v0 _ _=>bif Nat.beq v0 v then nj E0 E r λds=>K (.agg cs::ds)else fail|_=>fail)
  | .t,.it v _ p=>(match E0.get t with| .it v0 _ _=>bif Nat.beq v0 v then nj E0 E r λds=>K (.nat p::ds)else fail|_=>fail)
  |_,_=>fail
def nD (E:Env):List (Nat×JS)->List DV->Env->(Env->M β)->M β
 |[],st,E1,K=>aL st (K E1)
 |(t,x)::r,st,E1,K=>im st λd rest=>match x,E.get t with
  | .v x,_=>tj x d λd=>nD E r rest (E1.put t (.v d)) K
  | .l x,.loc v n _=>nZ d λcs=>kl x cs λcs=>nD E r rest (E1.put t (.loc v n cs)) K
  | .t,.it v s _=>O0 d λp=>nD E r rest (E1.put t (.it v s p)) K
  |_,_=>fail
def vj (fG:List Nat):List (Nat×JS)->Bool
 |[]=>true
 |(t,_)::r=>has fG t&&vj fG r
noncomputable def Od (E:Env) (fG:List Nat) (J:List (Nat×JS)) (K:Env->M β) (g:((Env->M β)->M β)):M β:=
 bif vj fG J then dU (λst=>nD E J st (E.del fG) K) λjk=>g λE1=>nj E E1 J jk else fail
noncomputable def exec (C:aY) (pr:List Nat) (c:Zd) (n:Nat):Code->lS->(Env->M β)->(Nat->Env->M β)->(Env->M β)->Env->M β
 | .skip,_,kn,_,_,E=>kn E
 | .seq a b,A,kn,kx,kr,E=>exec C pr c n a A.a (λE'=>exec C pr c n b A.b kn kx kr E') kx kr E
 | .region _ ops d,_,kn,_,_,E=>GN C pr c ops d E kn
 | .cond x a b,A,kn,kx,kr,E=>Mz C E x λv=>
   match A with
   | .j J A1 A2=>Od E (jn pr a++jn pr b) J kn λjk=>bif v then exec C pr c n a A1 jk kx kr E else exec C pr c n b A2 jk kx kr E
   |A=>bif v then exec C pr c n a A.a kn kx kr E else exec C pr c n b A.b kn kx kr E
 | .block id body,A,kn,kx,kr,E=>
   match A with
   | .j J A1 _=>Od E (jn pr body) J kn λjk=>exec C pr c n body A1 jk (λi E1=>bif Nat.beq i id then jk E1 else kx i E1) kr E
   |A=>exec C pr c n body A.a kn (λi E1=>bif Nat.beq i id then kn E1 else kx i E1) kr E
 | .loop body,A,_,kx,kr,E=>
   match A with
   | .j J A1 _=>bif vj (jn pr body) J then nj E E J λst=>dL (λrec st=>nD E J st (E.del (jn pr body)) λE1=>exec C pr c n body A1 (λE2=>nj E E2 J rec) kx kr E1) n st else fail
   |_=>fail
 | .exit id,_,_,kx,_,E=>kx id E
 | .ret,_,_,_,kr,E=>kr E
 |_,_,_,_,_,_=>fail
def okO (ok:Nat->Bool):List Oper->Bool
 |[]=>true
 |o::r=>(match o.dst with|some d=>ok d|none=>true)&&okO ok r
def sa (ok:Nat->Bool):Code->Bool
 | .region _ ops _=>okO ok ops.toList
 | .seq a b| .cond _ a b=>sa ok a&&sa ok b
 | .block _ b| .loop b| .scope b=>sa ok b
 |_=>true
def nC (n d:Nat):Bool:=Nat.blt d n
structure FA where
 pr:List Nat
 Bq:lS
 jS:Bool
def pf (C:aY) (E:Env):List ResultVar->(List DV->M β)->M β
 |[],K=>K []
 | .tmp t::r,K=>dQ C E (.tmp t) λd=>pf C E r λds=>K (d::ds)
 | .cell a t::r,K=>match E.get a with
  | .loc _ n cs=>mI C.P t (bif ZW C.P t then(bif Nat.beq n (C.P.cellsOf t)then pf C E r λds=>K (.agg cs::ds)else fail)else fe cs 0 λd=>pf C E r λds=>K (d::ds))
  |_=>fail
def hU:Nat->List DV->List (Nat×dz)
 |_,[]=>[]
 |t,d::r=>(t,.v d)::hU (t+1) r
noncomputable def oM (C:aY) (A:FA) (fn:Func) (c:Zd) (n:Nat) (args:List DV):M (List DV):=
 match fn.body with
 |some code=>bif sa (nC fn.ntmps) code&&Nat.ble (fn.params.size+fn.nfree) fn.ntmps then uL (fn.params.toList.map (jG C.P)++List.replicate fn.nfree (.b .ptr)) args λds=>
   bif A.jS then kS λb=>
    let kr (E:Env):M (List DV):=pf C E fn.results.toList λds=>gk b ds
    exec C A.pr c n code A.Bq kr (λ_ _=>fail) kr ⟨0,hU 0 ds⟩
   else
    let kr (E:Env):M (List DV):=pf C E fn.results.toList λds=>au ds
    exec C A.pr c n code A.Bq kr (λ_ _=>fail) kr ⟨0,hU 0 ds⟩
   else fail
 |none=>fail
abbrev Ze:=Nat->Zd->Nat->List DV->M (List DV)
def run (Bd:Ze):Nat->Zd
 |0,_,_=>fail
 |n+1,g,args=>Bd g (run Bd n) n args
noncomputable def nR (m:M (List DV)) (K:Int->M β):M β:=p8 m λds=>az .i64 ds λa0 r0=>aL r0<|K a0
noncomputable def sT (m:M (List DV)) (K:Int->M β):M β:=nf m λds=>az .u64 ds λa0 r0=>aL r0<|K a0
noncomputable def vD (m:M (List DV)) (K:Option (Nat×Nat)->Nat->M β):M β:=nf m λds=>cj 1 ds λa0 a1 r0=>aL r0<|K a0 a1
noncomputable def mR (m:M (List DV)) (K:List UInt8->M β):M β:=nf m λds=>gY ds λa0 r0=>aL r0<|K a0
noncomputable def C_ (m:M (List DV)) (K:M β):M β:=cK m λds=>aL ds<|K
noncomputable def DB (m:M (List DV)) (K:Int->Int->Int->Int->Int->Int->Int->Int->Option (Nat×Nat)->Nat->Int->Option (Nat×Nat)->Option (Nat×Nat)->Int->M β):M β:=cK m λds=>bW ds λq1 r0=>az .i64 q1 λa0 r2=>az .i64 r2 λa1 r3=>az .i64 r3 λa2 r4=>az .i64 r4 λa3 r5=>az .i64 r5 λa4 r6=>az .i64 r6 λa5 r7=>az .i64 r7 λa6 r8=>az .i64 r8 λa7 r9=>cj 1 r9 λa8 a9 qD=>az .i64 qD λfM tU=>eW tU λgZ CT=>eW CT λa12 r13=>aL r13<|az .i64 r0 λqa r14=>aL r14<|K a0 a1 a2 a3 a4 a5 a6 a7 a8 a9 fM gZ a12 qa
noncomputable def xN (m:M (List DV)) (K:Int->Int->Int->Int->Int->Int->Int->Int->Option (Nat×Nat)->Nat->Bool->M β):M β:=cK m λds=>bW ds λq1 r0=>az .i64 q1 λa0 r2=>az .i64 r2 λa1 r3=>az .i64 r3 λa2 r4=>az .i64 r4 λa3 r5=>az .i64 r5 λa4 r6=>az .i64 r6 λa5 r7=>az .i64 r7 λa6 r8=>az .i64 r8 λa7 r9=>cj 1 r9 λa8 a9 qD=>aL qD<|ko r0 λfM tU=>aL tU<|K a0 a1 a2 a3 a4 a5 a6 a7 a8 a9 fM
noncomputable def xM (m:M (List DV)) (K:Int->Int->Int->Option (Nat×Nat)->Nat->Option (Nat×Nat)->Nat->Option (Nat×Nat)->Nat->Option (Nat×Nat)->Int->M β):M β:=cK m λds=>bW ds λq1 r0=>az .i64 q1 λa0 r2=>az .i64 r2 λa1 r3=>az .i64 r3 λa2 r4=>cj 2 r4 λa3 a4 r5=>cj 1 r5 λa5 a6 r6=>cj 1 r6 λa7 a8 r7=>aL r7<|eW r0 λa9 r8=>az .i64 r8 λfM r9=>aL r9<|K a0 a1 a2 a3 a4 a5 a6 a7 a8 a9 fM
noncomputable def bA (m:M (List DV)) (K:Bool->M β):M β:=cK m λds=>ko ds λa0 r0=>aL r0<|K a0
noncomputable def oC (m:M (List DV)) (K:DV->M β):M β:=cK m λds=>O1 ds λa0 r0=>aL r0<|K a0
noncomputable def aX (m:M (List DV)) (K:Int->M β):M β:=cK m λds=>az .i64 ds λa0 r0=>aL r0<|K a0
noncomputable def mX (m:M (List DV)) (K:Int->Int->Option (Nat×Nat)->Nat->Bool->M β):M β:=cK m λds=>az .i64 ds λa0 r0=>az .i64 r0 λa1 r1=>cj 1 r1 λa2 a3 r2=>ko r2 λa4 r3=>aL r3<|K a0 a1 a2 a3 a4
noncomputable def EP (m:M (List DV)) (K:Int->Int->Bool->M β):M β:=cK m λds=>az .i64 ds λa0 r0=>az .u8 r0 λa1 r1=>ko r1 λa2 r2=>aL r2<|K a0 a1 a2
noncomputable def nc (m:M (List DV)) (K:Int->M β):M β:=cK m λds=>az .u32 ds λa0 r0=>aL r0<|K a0
noncomputable def kR (m:M (List DV)) (K:Int->M β):M β:=cK m λds=>az .u64 ds λa0 r0=>aL r0<|K a0
noncomputable def dZ (m:M (List DV)) (K:Option (Nat×Nat)->Nat->M β):M β:=cK m λds=>cj 1 ds λa0 a1 r0=>aL r0<|K a0 a1
noncomputable def uj (m:M (List DV)) (K:Option (Nat×Nat)->Nat->Bool->M β):M β:=cK m λds=>cj 1 ds λa0 a1 r0=>ko r0 λa2 r1=>aL r1<|K a0 a1 a2
noncomputable def iH (m:M (List DV)) (K:Option (Nat×Nat)->M β):M β:=cK m λds=>eW ds λa0 r0=>aL r0<|K a0
noncomputable def sH (m:M (List DV)) (K:List UInt8->M β):M β:=cK m λds=>gY ds λa0 r0=>aL r0<|K a0
noncomputable def ZQ (st:List DV) (K:Int->Int->Int->Int->Int->Int->Int->Int->Option (Nat×Nat)->Nat->M β):M β:=bW st λq1 r0=>az .i64 q1 λa0 r2=>az .i64 r2 λa1 r3=>az .i64 r3 λa2 r4=>az .i64 r4 λa3 r5=>az .i64 r5 λa4 r6=>az .i64 r6 λa5 r7=>az .i64 r7 λa6 r8=>az .i64 r8 λa7 r9=>cj 1 r9 λa8 a9 qD=>aL qD<|aL r0<|K a0 a1 a2 a3 a4 a5 a6 a7 a8 a9
noncomputable def pK (st:List DV) (K:Int->Int->Int->M β):M β:=bW st λq1 r0=>az .i64 q1 λa0 r2=>az .i64 r2 λa1 r3=>az .i64 r3 λa2 r4=>aL r4<|aL r0<|K a0 a1 a2
noncomputable def jK (st:List DV) (K:Bool->M β):M β:=ko st λa0 r0=>aL r0<|K a0
noncomputable def sY (st:List DV) (K:Bool->Int->Int->M β):M β:=ko st λa0 r0=>az .i64 r0 λa1 r1=>az .i64 r1 λa2 r2=>aL r2<|K a0 a1 a2
noncomputable def bQ (st:List DV) (K:Int->M β):M β:=az .i64 st λa0 r0=>aL r0<|K a0
noncomputable def Zru (st:List DV) (K:Int->Bool->Int->M β):M β:=az .i64 st λa0 r0=>ko r0 λa1 r1=>az .i64 r1 λa2 r2=>aL r2<|K a0 a1 a2
noncomputable def oH (st:List DV) (K:Int->Int->Int->M β):M β:=az .i64 st λa0 r0=>az .i64 r0 λa1 r1=>az .i64 r1 λa2 r2=>aL r2<|K a0 a1 a2
noncomputable def ZoI (st:List DV) (K:Int->Int->Int->Int->Bool->M β):M β:=az .i64 st λa0 r0=>az .i64 r0 λa1 r1=>az .i64 r1 λa2 r2=>az .i64 r2 λa3 r3=>ko r3 λa4 r4=>aL r4<|K a0 a1 a2 a3 a4
noncomputable def ZA (st:List DV) (K:Int->Int->Int->Int->Int->Int->Int->Int->Option (Nat×Nat)->Nat->M β):M β:=az .i64 st λa0 r0=>az .i64 r0 λa1 r1=>az .i64 r1 λa2 r2=>az .i64 r2 λa3 r3=>az .i64 r3 λa4 r4=>az .i64 r4 λa5 r5=>az .i64 r5 λa6 r6=>az .i64 r6 λa7 r7=>cj 1 r7 λa8 a9 r8=>aL r8<|K a0 a1 a2 a3 a4 a5 a6 a7 a8 a9
noncomputable def HJ (st:List DV) (K:Int->Int->Int->Int->Int->Int->Int->Int->Option (Nat×Nat)->Nat->Int->Option (Nat×Nat)->Option (Nat×Nat)->M β):M β:=az .i64 st λa0 r0=>az .i64 r0 λa1 r1=>az .i64 r1 λa2 r2=>az .i64 r2 λa3 r3=>az .i64 r3 λa4 r4=>az .i64 r4 λa5 r5=>az .i64 r5 λa6 r6=>az .i64 r6 λa7 r7=>cj 1 r7 λa8 a9 r8=>az .i64 r8 λfM r9=>eW r9 λgZ qD=>eW qD λa12 tU=>aL tU<|K a0 a1 a2 a3 a4 a5 a6 a7 a8 a9 fM gZ a12
noncomputable def sM (st:List DV) (K:Int->Int->Int->Option (Nat×Nat)->Nat->M β):M β:=az .i64 st λa0 r0=>az .i64 r0 λa1 r1=>az .i64 r1 λa2 r2=>cj 1 r2 λa3 a4 r3=>aL r3<|K a0 a1 a2 a3 a4
noncomputable def Es (st:List DV) (K:Int->Int->M β):M β:=az .i64 st λa0 r0=>az .u64 r0 λa1 r1=>aL r1<|K a0 a1
noncomputable def Zls (st:List DV) (K:Int->Option (Nat×Nat)->Nat->Option (Nat×Nat)->Nat->Option (Nat×Nat)->Nat->M β):M β:=az .i64 st λa0 r0=>cj 2 r0 λa1 a2 r1=>cj 1 r1 λa3 a4 r2=>cj 1 r2 λa5 a6 r3=>aL r3<|K a0 a1 a2 a3 a4 a5 a6
noncomputable def uA (st:List DV) (K:Int->Int->M β):M β:=az .u64 st λa0 r0=>az .i64 r0 λa1 r1=>aL r1<|K a0 a1
noncomputable def bG (st:List DV) (K:Option (Nat×Nat)->Nat->M β):M β:=cj 1 st λa0 a1 r0=>aL r0<|K a0 a1
noncomputable def qY (st:List DV) (K:Option (Nat×Nat)->Nat->Int->Int->M β):M β:=cj 1 st λa0 a1 r0=>az .i64 r0 λa2 r1=>az .i64 r1 λa3 r2=>aL r2<|K a0 a1 a2 a3
noncomputable def Dn (st:List DV) (K:Nat->M β):M β:=O2 st λa0 r0=>aL r0<|K a0
noncomputable def ck (st:List DV) (K:Option (Nat×Nat)->M β):M β:=eW st λa0 r0=>aL r0<|K a0
noncomputable def gy (st:List DV) (K:Option (Nat×Nat)->Int->M β):M β:=eW st λa0 r0=>az .i64 r0 λa1 r1=>aL r1<|K a0 a1
noncomputable def DD (st:List DV) (K:Option (Nat×Nat)->Int->Int->Int->Int->Int->Int->Int->Int->Int->Option (Nat×Nat)->Nat->M β):M β:=eW st λa0 r0=>az .i64 r0 λa1 r1=>bW r1 λq3 r2=>az .i64 q3 λa2 r4=>az .i64 r4 λa3 r5=>az .i64 r5 λa4 r6=>az .i64 r6 λa5 r7=>az .i64 r7 λa6 r8=>az .i64 r8 λa7 r9=>az .i64 r9 λa8 qD=>az .i64 qD λa9 tU=>cj 1 tU λfM gZ CT=>aL CT<|aL r2<|K a0 a1 a2 a3 a4 a5 a6 a7 a8 a9 fM gZ
noncomputable def uD (st:List DV) (K:Option (Nat×Nat)->Int->Int->M β):M β:=eW st λa0 r0=>az .i64 r0 λa1 r1=>az .i64 r1 λa2 r2=>aL r2<|K a0 a1 a2
noncomputable def uy (st:List DV) (K:Option (Nat×Nat)->Int->Int->M β):M β:=eW st λa0 r0=>az .i64 r0 λa1 r1=>az .u64 r1 λa2 r2=>aL r2<|K a0 a1 a2
noncomputable def EZ (st:List DV) (K:List UInt8->Option (Nat×Nat)->Nat->M β):M β:=gY st λa0 r0=>cj 4 r0 λa1 a2 r1=>aL r1<|K a0 a1 a2
def ZP (a0:Int) (a1:Int) (a2:Int) (a3:Int) (a4:Int) (a5:Int) (a6:Int) (a7:Int) (a8:Option (Nat×Nat)) (a9:Nat) (fM:Int) (gZ:Option (Nat×Nat)) (a12:Option (Nat×Nat)) (qa:Int):List DV:=[.agg [.int .i64 a0,.int .i64 a1,.int .i64 a2,.int .i64 a3,.int .i64 a4,.int .i64 a5,.int .i64 a6,.int .i64 a7,.slice 0 a8 a9,.int .i64 fM,.ptr gZ,.ptr a12],.int .i64 qa]
def xL (a0:Int) (a1:Int) (a2:Int) (a3:Int) (a4:Int) (a5:Int) (a6:Int) (a7:Int) (a8:Option (Nat×Nat)) (a9:Nat) (fM:Bool):List DV:=[.agg [.int .i64 a0,.int .i64 a1,.int .i64 a2,.int .i64 a3,.int .i64 a4,.int .i64 a5,.int .i64 a6,.int .i64 a7,.slice 0 a8 a9],.bool fM]
def DC (a0:Int) (a1:Int) (a2:Int) (a3:Int) (a4:Int) (a5:Int) (a6:Int) (a7:Int) (a8:Option (Nat×Nat)) (a9:Nat) (fM:Int) (gZ:Option (Nat×Nat)) (a12:Option (Nat×Nat)) (qa:Int):List DV:=[.agg [.int .i64 a0,.int .i64 a1,.int .i64 a2,.int .i64 a3,.int .i64 a4,.int .i64 a5,.int .i64 a6,.int .i64 a7,.slice 1 a8 a9,.int .i64 fM,.ptr gZ,.ptr a12],.int .i64 qa]
def ZO (a0:Int) (a1:Int) (a2:Int) (a3:Int) (a4:Int) (a5:Int) (a6:Int) (a7:Int) (a8:Option (Nat×Nat)) (a9:Nat):List DV:=[.agg [.int .i64 a0,.int .i64 a1,.int .i64 a2,.int .i64 a3,.int .i64 a4,.int .i64 a5,.int .i64 a6,.int .i64 a7,.slice 1 a8 a9]]
def Ag (a0:Int) (a1:Int) (a2:Int) (a3:Int) (a4:Int) (a5:Int) (a6:Int) (a7:Int) (a8:Option (Nat×Nat)) (a9:Nat) (fM:Int) (gZ:Bool):List DV:=[.agg [.int .i64 a0,.int .i64 a1,.int .i64 a2,.int .i64 a3,.int .i64 a4,.int .i64 a5,.int .i64 a6,.int .i64 a7,.slice 1 a8 a9],.int .i64 fM,.bool gZ]
def p6 (a0:Int) (a1:Int) (a2:Int):List DV:=[.agg [.int .i64 a0,.int .i64 a1,.int .i64 a2]]
def Lb (a0:Bool):List DV:=[.bool a0]
def Z6 (a0:Bool) (a1:Int) (a2:Int) (a3:Bool) (a4:Int) (a5:Int) (a6:Bool) (a7:Int) (a8:Int) (a9:Bool) (fM:Int) (gZ:Int) (a12:Bool) (qa:Int) (Mk:Int) (Ml:Bool) (Mm:Int) (a17:Int) (Mn:Bool) (Mo:Int) (a20:Int):List DV:=[.bool a0,.int .i64 a1,.int .i64 a2,.bool a3,.int .i64 a4,.int .i64 a5,.bool a6,.int .i64 a7,.int .i64 a8,.bool a9,.int .i64 fM,.int .i64 gZ,.bool a12,.int .i64 qa,.int .i64 Mk,.bool Ml,.int .i64 Mm,.int .i64 a17,.bool Mn,.int .i64 Mo,.int .i64 a20]
def Li (a0:Int):List DV:=[.int .i64 a0]
def gH (a0:Int) (a1:Int):List DV:=[.int .i64 a0,.int .i64 a1]
def vG (a0:Int):List DV:=[.int .i32 a0]
def sI (a0:Int) (a1:Int) (a2:Int):List DV:=[.int .i64 a0,.int .i64 a1,.int .i64 a2]
def Dw (a0:Int) (a1:Int) (a2:Int) (a3:Int) (a4:Int) (a5:Int) (a6:Int) (a7:Int) (a8:Option (Nat×Nat)) (a9:Nat) (fM:Int) (gZ:Option (Nat×Nat)) (a12:Option (Nat×Nat)):List DV:=[.int .i64 a0,.int .i64 a1,.int .i64 a2,.int .i64 a3,.int .i64 a4,.int .i64 a5,.int .i64 a6,.int .i64 a7,.slice 1 a8 a9,.int .i64 fM,.ptr gZ,.ptr a12]
def Za (a0:Int) (a1:Int) (a2:Int) (a3:Int) (a4:Int) (a5:Int) (a6:Int) (a7:Int) (a8:Int) (a9:Int) (fM:Int) (gZ:Int) (a12:Int) (qa:Int) (Mk:Int) (Ml:Int) (Mm:Int) (a17:Int) (Mn:Int) (Mo:Int) (a20:Int) (a21:Int) (a22:Int) (a23:Int) (a24:Int) (a25:Int) (a26:Int) (a27:Int) (a28:Int) (a29:Int) (a30:Int) (a31:Int) (a32:Int) (a33:Int) (a34:Int) (a35:Int) (a36:Int) (a37:Int) (a38:Int) (a39:Int) (a40:Int) (a41:Int) (a42:Int) (a43:Int) (a44:Int) (a45:Int) (a46:Int) (a47:Int) (a48:Int):List DV:=[.int .i64 a0,.int .u8 a1,.int .u8 a2,.int .u8 a3,.int .u8 a4,.int .u8 a5,.int .u8 a6,.int .u8 a7,.int .u8 a8,.int .u8 a9,.int .u8 fM,.int .u8 gZ,.int .u8 a12,.int .u8 qa,.int .u8 Mk,.int .u8 Ml,.int .u8 Mm,.int .u8 a17,.int .u8 Mn,.int .u8 Mo,.int .u8 a20,.int .u8 a21,.int .u8 a22,.int .u8 a23,.int .u8 a24,.int .u8 a25,.int .u8 a26,.int .u8 a27,.int .u8 a28,.int .u8 a29,.int .u8 a30,.int .u8 a31,.int .u8 a32,.int .u8 a33,.int .u8 a34,.int .u8 a35,.int .u8 a36,.int .u8 a37,.int .u8 a38,.int .u8 a39,.int .u8 a40,.int .u8 a41,.int .u8 a42,.int .u8 a43,.int .u8 a44,.int .u8 a45,.int .u8 a46,.int .u8 a47,.int .u8 a48]
def lu (a0:Int) (a1:Option (Nat×Nat)) (a2:Nat):List DV:=[.int .i64 a0,.slice 1 a1 a2]
def iI (a0:Int):List DV:=[.int .u32 a0]
def ly (a0:Int) (a1:Int):List DV:=[.int .u32 a0,.int .i64 a1]
def cV (a0:Int):List DV:=[.int .u64 a0]
def ZD (a0:Int) (a1:Int):List DV:=[.int .u64 a0,.int .i64 a1]
def iP (a0:Int):List DV:=[.int .u8 a0]
def lT (a0:Option (Nat×Nat)) (a1:Nat) (a2:Int):List DV:=[.slice 0 a0 a1,.int .i64 a2]
def bh (a0:Option (Nat×Nat)) (a1:Nat):List DV:=[.slice 1 a0 a1]
def xO (a0:Option (Nat×Nat)) (a1:Nat) (a2:Int) (a3:Int) (a4:Int) (a5:Int) (a6:Int) (a7:Int) (a8:Int) (a9:Int) (fM:Option (Nat×Nat)) (gZ:Nat):List DV:=[.slice 1 a0 a1,.agg [.int .i64 a2,.int .i64 a3,.int .i64 a4,.int .i64 a5,.int .i64 a6,.int .i64 a7,.int .i64 a8,.int .i64 a9,.slice 1 fM gZ]]
def gj (a0:Option (Nat×Nat)) (a1:Nat) (a2:Int):List DV:=[.slice 1 a0 a1,.int .i64 a2]
def ZY (a0:Option (Nat×Nat)) (a1:Nat) (a2:Int) (a3:Int):List DV:=[.slice 1 a0 a1,.int .i64 a2,.int .i64 a3]
def Lp (a0:Option (Nat×Nat)):List DV:=[.ptr a0]
def A7 (a0:Option (Nat×Nat)) (a1:Int) (a2:Int) (a3:Int):List DV:=[.ptr a0,.agg [.int .i64 a1,.int .i64 a2,.int .i64 a3]]
def cP (a0:Option (Nat×Nat)) (a1:Int):List DV:=[.ptr a0,.int .i64 a1]
def Ah (a0:Option (Nat×Nat)) (a1:Int) (a2:Int) (a3:Int) (a4:Int) (a5:Int) (a6:Int) (a7:Int) (a8:Int) (a9:Int) (fM:Option (Nat×Nat)) (gZ:Nat):List DV:=[.ptr a0,.int .i64 a1,.agg [.int .i64 a2,.int .i64 a3,.int .i64 a4,.int .i64 a5,.int .i64 a6,.int .i64 a7,.int .i64 a8,.int .i64 a9,.slice 1 fM gZ]]
def kf (a0:Option (Nat×Nat)) (a1:Int) (a2:Int):List DV:=[.ptr a0,.int .i64 a1,.int .i64 a2]
def rh (a0:Option (Nat×Nat)) (a1:Int) (a2:Int) (a3:Int):List DV:=[.ptr a0,.int .i64 a1,.int .i64 a2,.int .u64 a3]
def kQ (a0:Option (Nat×Nat)) (a1:Int) (a2:Int):List DV:=[.ptr a0,.int .i64 a1,.int .u64 a2]
def jM (a0:Option (Nat×Nat)) (a1:Option (Nat×Nat)) (a2:Nat):List DV:=[.ptr a0,.slice 1 a1 a2]
def pH (a0:Option (Nat×Nat)) (a1:Option (Nat×Nat)):List DV:=[.ptr a0,.ptr a1]
def Ls (a0:List UInt8):List DV:=[.str a0]
def uk (a0:List UInt8) (a1:Int):List DV:=[.str a0,.int .i64 a1]
def DA (a0:List UInt8) (a1:Int) (a2:Int) (a3:Int) (a4:Int) (a5:Int) (a6:Int) (a7:Int) (a8:Int) (a9:Int) (fM:Int) (gZ:Int) (a12:Int) (qa:Int):List DV:=[.str a0,.int .i64 a1,.int .i64 a2,.int .i64 a3,.int .i64 a4,.int .i64 a5,.int .i64 a6,.int .i64 a7,.int .i64 a8,.int .i64 a9,.int .i64 fM,.int .i64 gZ,.int .i64 a12,.int .i64 qa]
noncomputable def N_ (p:Option (Nat×Nat)) (x:Int) (l:Nat) (K:Nat->Nat->M β):M β:=aF p λi o=>aJ (bL x l)<|K i o
noncomputable def Q_ (f:M β) (g:(List DV->M β)->M β):M β:=dU (λst=>aL st<|f) g
noncomputable def HK (f:Int->Int->Int->Int->Int->Int->Int->Int->Option (Nat×Nat)->Nat->Int->Bool->M β) (g:(List DV->M β)->M β):M β:=dU (λst=>bW st λq1 r0=>az .i64 q1 λa0 r2=>az .i64 r2 λa1 r3=>az .i64 r3 λa2 r4=>az .i64 r4 λa3 r5=>az .i64 r5 λa4 r6=>az .i64 r6 λa5 r7=>az .i64 r7 λa6 r8=>az .i64 r8 λa7 r9=>cj 1 r9 λa8 a9 qD=>aL qD<|az .i64 r0 λfM tU=>ko tU λgZ CT=>aL CT<|f a0 a1 a2 a3 a4 a5 a6 a7 a8 a9 fM gZ) g
noncomputable def aB (f:Bool->M β) (g:(List DV->M β)->M β):M β:=dU (λst=>ko st λa0 r0=>aL r0<|f a0) g
noncomputable def jg (f:Int->M β) (g:(List DV->M β)->M β):M β:=dU (λst=>az .i64 st λa0 r0=>aL r0<|f a0) g
noncomputable def rn (f:Int->M β) (g:(List DV->M β)->M β):M β:=dU (λst=>az .u32 st λa0 r0=>aL r0<|f a0) g
noncomputable def uG (f:Int->M β) (g:(List DV->M β)->M β):M β:=dU (λst=>az .u64 st λa0 r0=>aL r0<|f a0) g
noncomputable def jx (f:Option (Nat×Nat)->Nat->M β) (g:(List DV->M β)->M β):M β:=dU (λst=>cj 1 st λa0 a1 r0=>aL r0<|f a0 a1) g
noncomputable def bY (f:(List DV->M β)->Int->M β) (n:Nat) (l:List DV):M β:=dL (λrec st=>az .i64 st λa0 r0=>aL r0<|f rec a0) n l
noncomputable def ra (f:(List DV->M β)->Int->Int->M β) (n:Nat) (l:List DV):M β:=dL (λrec st=>az .u32 st λa0 r0=>az .i64 r0 λa1 r1=>aL r1<|f rec a0 a1) n l
noncomputable def sQ (f:(List DV->M β)->Int->Int->M β) (n:Nat) (l:List DV):M β:=dL (λrec st=>az .u64 st λa0 r0=>az .i64 r0 λa1 r1=>aL r1<|f rec a0 a1) n l
noncomputable def oG (f:(List DV->M β)->Option (Nat×Nat)->Nat->Int->M β) (n:Nat) (l:List DV):M β:=dL (λrec st=>cj 1 st λa0 a1 r0=>az .i64 r0 λa2 r1=>aL r1<|f rec a0 a1 a2) n l
noncomputable def Zw (s:Nat) (p:Option (Nat×Nat)) (x:Int) (l:Nat) (K:Int->M β):M β:=aF p λi o=>aJ (bL x l)<|bc i (x.toNat*s+o) λd=>dj .i64 d λv=>K v
noncomputable def ZF (s:Nat) (p:Option (Nat×Nat)) (x:Int) (l:Nat) (K:Int->M β):M β:=aF p λi o=>aJ (bL x l)<|bc i (x.toNat*s+o) λd=>dj .u64 d λv=>K v
noncomputable def lW (i p:Nat) (K:Bool->M β):M β:=bc i p λd=>p7 d λv=>K v
noncomputable def Zl (i p:Nat) (K:Int->M β):M β:=bc i p λd=>dj .i64 d λv=>K v
noncomputable def ZL (i p:Nat) (K:Int->M β):M β:=bc i p λd=>dj .u64 d λv=>K v
abbrev af:=List DV
abbrev ah:=Option (Nat×Nat)
abbrev aj:=List UInt8
abbrev ak:=List Int
abbrev al:=List Nat
abbrev an:=Zd->Nat->af->M af
end Go.Gv
