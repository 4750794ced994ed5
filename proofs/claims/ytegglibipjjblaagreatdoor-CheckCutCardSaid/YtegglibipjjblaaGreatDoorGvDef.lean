/- A deterministic heap machine beside the model: its values, its heap, what it makes of a function's code. -/
import Derived.Orders
import Derived.KernelRfl
namespace Go.Gv
inductive DV where
 |bool (b:Bool)
 |int (k:IntKind) (n:Int)
 |str (s:List UInt8)
 |ptr (a:Option (Nat×Nat))
 |slice (sz:Nat) (a:Option (Nat×Nat)) (len:Nat)
 |agg (cs:List DV)
 |func (g:Nat) (first cap:List DV)
 |nilFunc
 |iface (t:Nat) (v:DV)
 |nilIface
 |nat (n:Nat)
structure Blk where
 frz:Bool
 cells:List DV
abbrev St:=List (Option Blk)
inductive Out (β:Type) where
 |val (b:β)
 |pan
abbrev M (β:Type):=St→Option (Out β×St)
abbrev Zg:=Nat→List DV→M (List DV)
variable {β:Type}
def fail:M β:=fun _=>none
abbrev bs (l:List UInt8):List UInt8:=l
def St.cells (s:St) (i:Nat):Option (List DV):=
 match s[i]? with
 |some (some b)=>some b.cells
 |_=>none
def St.open? (s:St) (i:Nat):Option (List DV):=
 match s[i]? with
 |some (some ⟨false,cs⟩)=>some cs
 |_=>none
def ov:List DV→List DV→List DV
 |_::cs,d::ds=>d::ov cs ds
 |cs,[]=>cs
 |[],_=>[]
def spl:List DV→Nat→List DV→List DV
 |cs,0,ds=>ov cs ds
 |c::cs,k+1,ds=>c::spl cs k ds
 |[],_+1,_=>[]
def M.nn (a:Option (Nat×Nat)) (K:Nat→Nat→M β):M β:=
 match a with
 |some (i,o)=>K i o
 |none=>fail
def M.load (i o n:Nat) (K:List DV→M β):M β:=fun s=>
 match s.cells i with
 |some cs=>bif Nat.ble (o+n) cs.length then K ((cs.drop o).take n) s else none
 |none=>none
def M.load1 (i o:Nat) (K:DV→M β):M β:=fun s=>
 match s.cells i with
 |some cs=>match cs[o]? with
  |some d=>K d s
  |none=>none
 |none=>none
def M.store (i o:Nat) (ds:List DV) (K:M β):M β:=fun s=>
 match s.open? i with
 |some cs=>bif Nat.ble (o+ds.length) cs.length then K (s.set i (some ⟨false,spl cs o ds⟩))else none
 |none=>none
def M.new (cells:List DV) (K:Nat→M β):M β:=fun s=>K s.length (s++[some ⟨false,cells⟩])
def M.rd (a:Option (Nat×Nat)) (n:Nat) (K:List DV→M β):M β:=
 match a with
 |some (i,o)=>M.load i o n K
 |none=>bif Nat.beq n 0 then K []else fail
def M.wr (a:Option (Nat×Nat)) (ds:List DV) (K:M β):M β:=
 match a with
 |some (i,o)=>M.store i o ds K
 |none=>bif Nat.beq ds.length 0 then K else fail
def M.app (sz:Nat) (a:Option (Nat×Nat)) (len:Nat) (ds:List DV) (m lim:Nat) (K:Option (Nat×Nat)→M β):M β:=fun s=>
 bif Nat.beq m 0 then K a s else
 bif Nat.ble (len+m) lim then
  match a with
  |none=>bif Nat.beq len 0 then K (some (s.length,0)) (s++[some ⟨false,ds⟩])else none
  |some (i,o)=>match s.open? i with
   |some cs=>bif Nat.ble (o+len*sz) cs.length then K (some (s.length,0)) (s.set i none++[some ⟨false,(cs.drop o).take (len*sz)++ds⟩])else none
   |none=>none
 else none
def M.chk (b:Bool) (K:M β):M β:=bif b then K else fail
def M.call {α:Type} (m:M α) (K:α→M β):M β:=fun s=>
 match m s with
 |some (.val ds,s')=>K ds s'
 |some (.pan,s')=>some (.pan,s')
 |none=>none
def St.begins (s s':St):Prop:=∃r,s'=s++r
open Classical in
noncomputable def M.callX {α:Type} (m:M α) (K:α→M β):M β:=fun s=>
 match m s with
 |some (.val ds,s')=>if St.begins s s' then K ds s' else none
 |_=>none
def M.callN {α:Type} (m:M α) (K:α→M β):M β:=fun s=>
 match m s with
 |some (.val ds,s')=>K ds s'
 |_=>none
def M.catch (m:M (List DV)) (H:Bool→M β):M β:=fun s=>
 match m s with
 |some (.val _,s')=>H false s'
 |some (.pan,s')=>H true s'
 |none=>none
open Classical in
noncomputable def M.keep {α:Type} (i:Nat) (m:M α):M α:=fun s=>
 match m s with
 |some (.val ds,s')=>if s'[i]? =s[i]? then some (.val ds,s')else none
 |r=>r
def M.pan:M β:=fun s=>some (.pan,s)
def M.base (f:Nat→M β):M β:=fun s=>f s.length s
def ZR (b:Nat) (s:St):St:=s.take b++(s.drop b).map (fun x=>x.map fun k=> { k with frz:=true })
def M.ret (ds:β):M β:=fun s=>some (.val ds,s)
def M.retF (b:Nat) (ds:β):M β:=fun s=>some (.val ds,ZR b s)
theorem ZxM (f:List DV→M β) (g:(List DV→M β)→M β): ∃x:M β,∀f' g',f'=f→g'=g→x=g' f':=⟨g f,fun _ _ e1 e2=>by rw[e1,e2]⟩
noncomputable def M.join (f:List DV→M β) (g:(List DV→M β)→M β):M β:=Classical.choose (ZxM f g)
theorem M.join_def (f:List DV→M β) (g:(List DV→M β)→M β):M.join f g=g f:=Classical.choose_spec (ZxM f g) f g rfl rfl
def M.loop (F:(List DV→M β)→List DV→M β):Nat→List DV→M β
 |0,_=>fail
 |n+1,st=>F (M.loop F n) st
def D.bool (d:DV) (K:Bool→M β):M β:=match d with| .bool b=>K b|_=>fail
def ikEq:IntKind→IntKind→Bool
 | .i8,.i8| .i16,.i16| .i32,.i32| .i64,.i64| .u8,.u8| .u16,.u16| .u32,.u32| .u64,.u64=>true
 |_,_=>false
def D.int (k:IntKind) (d:DV) (K:Int→M β):M β:=match d with| .int k' n=>bif ikEq k' k then K n else fail|_=>fail
def D.str (d:DV) (K:List UInt8→M β):M β:=match d with| .str s=>K s|_=>fail
def D.ptr (d:DV) (K:Option (Nat×Nat)→M β):M β:=match d with| .ptr a=>K a|_=>fail
def D.slice (sz:Nat) (d:DV) (K:Option (Nat×Nat)→Nat→M β):M β:=
 match d with| .slice z a n=>bif Nat.beq z sz||a.isNone then K a n else fail|_=>fail
def D.func (d:DV) (K:Nat→List DV→List DV→M β):M β:=match d with| .func g f c=>K g f c|_=>fail
def D.agg (d:DV) (K:List DV→M β):M β:=match d with| .agg cs=>K cs|_=>fail
def D.nat (d:DV) (K:Nat→M β):M β:=match d with| .nat n=>K n|_=>fail
def D.cons (cs:List DV) (K:DV→List DV→M β):M β:=match cs with|d::r=>K d r|[]=>fail
def D.nil (cs:List DV) (K:M β):M β:=match cs with|[]=>K|_=>fail
def D.blob (n:Nat) (cs:List DV) (K:List DV→List DV→M β):M β:=bif Nat.ble n cs.length then K (cs.take n) (cs.drop n)else fail
def D.nth (cs:List DV) (i:Nat) (K:DV→M β):M β:=match cs[i]? with|some d=>K d|none=>fail
def D.len (ds:List DV) (n:Nat) (K:M β):M β:=bif Nat.beq ds.length n then K else fail
def D.asr (pn:M β) (d:DV) (t:Nat) (K:DV→M β):M β:=match d with| .iface t' v=>bif Nat.beq t' t then K v else pn| .nilIface=>pn|_=>fail
def ZbX:List DV→Option (List UInt8)
 |[]=>some []
 | .int .u8 n::r=>(ZbX r).map (UInt8.ofNat n.toNat:: ·)
 |_=>none
def D.oct (cs:List DV) (K:List UInt8→M β):M β:=match ZbX cs with|some l=>K l|none=>fail
def J.b (st:List DV) (K:Bool→List DV→M β):M β:=D.cons st fun d r=>D.bool d fun x=>K x r
def J.i (k:IntKind) (st:List DV) (K:Int→List DV→M β):M β:=D.cons st fun d r=>D.int k d fun x=>K x r
def J.s (st:List DV) (K:List UInt8→List DV→M β):M β:=D.cons st fun d r=>D.str d fun x=>K x r
def J.p (st:List DV) (K:Option (Nat×Nat)→List DV→M β):M β:=D.cons st fun d r=>D.ptr d fun x=>K x r
def J.l (sz:Nat) (st:List DV) (K:Option (Nat×Nat)→Nat→List DV→M β):M β:=D.cons st fun d r=>D.slice sz d fun a n=>K a n r
def J.f (st:List DV) (K:Nat→List DV→List DV→List DV→M β):M β:=D.cons st fun d r=>D.func d fun g f c=>K g f c r
def J.a (st:List DV) (K:List DV→List DV→M β):M β:=D.cons st fun d r=>D.agg d fun x=>K x r
def J.n (st:List DV) (K:Nat→List DV→M β):M β:=D.cons st fun d r=>D.nat d fun x=>K x r
def J.d (st:List DV) (K:DV→List DV→M β):M β:=D.cons st K
inductive B where
 |bool|int (k:IntKind)|str|ptr|slice (sz:Nat)|func|any|blob (n:Nat)
inductive Sh where
 |b (x:B)
 |agg (l:List B)
def d1 (x:B) (d:DV) (K:DV→M β):M β:=
 match x with
 | .bool=>D.bool d fun b=>K (.bool b)
 | .int k=>D.int k d fun n=>K (.int k n)
 | .str=>D.str d fun s=>K (.str s)
 | .ptr=>D.ptr d fun a=>K (.ptr a)
 | .slice sz=>D.slice sz d fun a n=>K (.slice sz a n)
 | .func=>D.func d fun g f c=>K (.func g f c)
 | .any=>K d
 | .blob _=>fail
def Zbv:List B→List DV→(List DV→M β)→M β
 |[],cs,K=>D.nil cs (K [])
 |[.blob n],cs,K=>D.len cs n (K cs)
 | .blob n::r,cs,K=>D.blob n cs fun xs rest=>Zbv r rest fun ds=>K (xs++ds)
 |x::r,cs,K=>D.cons cs fun d rest=>d1 x d fun d'=>Zbv r rest fun ds=>K (d'::ds)
def dsh (x:Sh) (d:DV) (K:DV→M β):M β:=
 match x with
 | .b x=>d1 x d K
 | .agg l=>D.agg d fun cs=>Zbv l cs fun ds=>K (.agg ds)
def dlist:List Sh→List DV→(List DV→M β)→M β
 |[],cs,K=>D.nil cs (K [])
 |x::r,cs,K=>D.cons cs fun d rest=>dsh x d fun d'=>dlist r rest fun ds=>K (d'::ds)
def glue:List B→List B
 |[]=>[]
 | .blob n::r=>match glue r with
  | .blob m::r'=> .blob (n+m)::r'
  |r'=> .blob n::r'
 |x::r=>x::glue r
def bOf (P:Program):Nat→TypeId→List B
 |0,_=>[.any]
 |n+1,t=>
  match P.underlying t with
  |some .bool=>[.bool]
  |some (.int k)=>[.int k]
  |some .string=>[.str]
  |some (.pointer _)=>[.ptr]
  |some (.slice e)=>[.slice (P.cellsOf e)]
  |some (.func _ _ _)=>[.func]
  |some (.array m e)=>bif Nat.ble (m*P.cellsOf e) 8 then(List.replicate m (bOf P n e)).flatten else[.blob (m*P.cellsOf e)]
  |some (.struct fs)=>glue (fs.toList.flatMap fun f=>bOf P n f.type)
  |_=>[.any]
def ZG (P:Program) (t:TypeId):Bool:=
 match P.underlying t with
 |some (.struct _)|some (.array _ _)=>true
 |_=>false
def shOf (P:Program) (t:TypeId):Sh:=
 bif ZG P t then .agg (bOf P 20 t)else
 match bOf P 1 t with
 |[x]=> .b x
 |_=> .b .any
def resOf (P:Program) (t:TypeId):Bool×List Sh:=
 match P.underlying t with
 |some (.tuple ts)=>(true,ts.toList.map (shOf P))
 |_=>(false,[shOf P t])
structure Cfg where
 P:Program
 fn:Nat→Nat
 cov:Nat→Bool
 ty:Nat→Nat
 gl:Nat→Nat
 glc:Nat→Bool
 eqT:Nat→List B
 mp:Nat→Bool
def ofVal:Value→Option DV
 | .bool b=>some (.bool b)
 | .int k n=>some (.int k n)
 | .string s=>some (.str s.data.toList)
 | .pointer none=>some (.ptr none)
 | .slice none 0 0=>some (.slice 0 none 0)
 | .nilFunc=>some .nilFunc
 | .nilIface=>some .nilIface
 |_=>none
def Zl1:List Value→Option (List DV)
 |[]=>some []
 |v::r=>match ofVal v,Zl1 r with
  |some d,some ds=>some (d::ds)
  |_,_=>none
inductive Ent where
 |u
 |un
 |v (d:DV)
 |tup (ds:List DV)
 |loc (v n:Nat) (cs:List DV)
 |pl (r v o:Nat)
 |it (v:Nat) (s:List UInt8) (pos:Nat)
structure Env where
 nxt:Nat
 l:List (Nat×Ent)
def look:List (Nat×Ent)→Nat→Ent
 |[],_=> .u
 |(k,e)::r,t=>bif Nat.beq k t then e else look r t
def Env.get (E:Env) (t:Nat):Ent:=look E.l t
def Env.put (E:Env) (t:Nat) (e:Ent):Env:=⟨E.nxt,(t,e)::E.l⟩
def Env.putO (E:Env) (t:Option Nat) (e:Ent):Env:=match t with|some t=>E.put t e|none=>E
def has:List Nat→Nat→Bool
 |[],_=>false
 |k::r,t=>Nat.beq k t||has r t
def delL:List (Nat×Ent)→List Nat→List (Nat×Ent)
 |[],_=>[]
 |(k,e)::r,ts=>bif has ts k then delL r ts else(k,e)::delL r ts
def Env.del (E:Env) (ts:List Nat):Env:=⟨E.nxt,delL E.l ts⟩
def Env.src (C:Cfg) (E:Env):Operand→Ent
 | .tmp t=>match E.get t with
  | .loc v _ _=> .pl t v 0
  | .it _ _ _=> .u
  |e=>e
 | .const v=>(match ofVal v with|some d=> .v d|none=> .u)
 | .global g=>bif C.glc g then .v (.ptr (some (C.gl g,0)))else .u
 | .func f=>bif C.cov f then .v (.func (C.fn f) [] [])else .u
def valK (C:Cfg) (E:Env) (x:Operand) (K:DV→M β):M β:=
 match E.src C x with
 | .v d=>K d
 |_=>fail
def valsK (C:Cfg) (E:Env):List Operand→(List DV→M β)→M β
 |[],K=>K []
 |x::r,K=>valK C E x fun d=>valsK C E r fun ds=>K (d::ds)
def Zow (E:Env) (r v:Nat) (K:Nat→List DV→M β):M β:=
 match E.get r with
 | .loc v' n cs=>bif Nat.beq v' v then K n cs else fail
 |_=>fail
def addrK (C:Cfg) (E:Env) (x:Operand) (KL:Nat→Nat→Nat→M β) (KH:Nat→Nat→M β):M β:=
 match E.src C x with
 | .pl r v o=>KL r v o
 | .v (.ptr a)=>M.nn a KH
 |_=>fail
def intK (C:Cfg) (E:Env) (x:Operand) (K:Int→M β):M β:=valK C E x fun d=>match d with| .int _ n=>K n|_=>fail
def boolK (C:Cfg) (E:Env) (x:Operand) (K:Bool→M β):M β:=valK C E x fun d=>match d with| .bool b=>K b|_=>fail
def eqD:B→DV→DV→Option Bool
 | .bool,.bool a,.bool b=>some (a==b)
 | .int k0,.int k a,.int k' b=>bif ikEq k0 k&&ikEq k k' then some (a==b)else none
 | .str,.str a,.str b=>some (a==b)
 |_,_,_=>none
def eqL:List B→List DV→List DV→Option Bool
 |[],[],[]=>some true
 |k::ks,a::r,b::r'=>match eqD k a b,eqL ks r r' with
  |some x,some y=>some (x&&y)
  |_,_=>none
 |_,_,_=>none
def D.eqs (ag:List B) (xs ys:List DV) (K:Bool→M β):M β:=match eqL ag xs ys with|some b=>K b|none=>fail
def eqK (u:Option TypeDesc) (ag:List B) (a b:DV) (K:Bool→M β):M β:=
 match a,b with
 | .bool x,.bool y=>(match u with|some .bool=>K (x==y)|_=>fail)
 | .int k x,.int k' y=>bif ikEq k k' then K (x==y)else fail
 | .str x,.str y=>K (x==y)
 | .ptr x,.ptr none=>(match u with|some (.pointer _)=>K x.isNone|_=>fail)
 | .ptr none,.ptr x=>(match u with|some (.pointer _)=>K x.isNone|_=>fail)
 | .slice _ x _,.slice _ none _=>(match u with|some (.slice _)=>K x.isNone|_=>fail)
 | .slice _ none _,.slice _ x _=>(match u with|some (.slice _)=>K x.isNone|_=>fail)
 | .agg xs,.agg ys=>(match ag with|[]=>fail|k::ks=>(match eqL (k::ks) xs ys with|some b=>K b|none=>fail))
 |_,_=>fail
def wr64 (n:Int):Int:=IntKind.i64.wrap n
def bits (op:BinOp) (k:IntKind) (x y:Int):Int:=
 let a:=BitVec.ofInt k.bits x
 let b:=BitVec.ofInt k.bits y
 match op with
 | .and=>k.wrap (a&&& b).toNat
 | .or=>k.wrap (a|||b).toNat
 | .xor=>k.wrap (a^^^b).toNat
 |_=>k.wrap (a&&& ~~~b).toNat
def strLt:List UInt8→List UInt8→Bool:=Op.bytesLess
def binK (u:Option TypeDesc) (ag:List B) (op:BinOp) (a b:DV) (K:DV→M β):M β:=
 match op with
 | .eql=>eqK u ag a b fun r=>K (.bool r)
 | .neq=>eqK u ag a b fun r=>K (.bool !r)
 | .shl=>match a,b with
  | .int k x,.int _ y=>M.chk (decide (0≤y)) (K (.int k (k.wrap (x*2^(min y.toNat k.bits)))))
  |_,_=>fail
 | .shr=>match a,b with
  | .int k x,.int _ y=>M.chk (decide (0≤y)) (K (.int k (x.fdiv (2^(min y.toNat k.bits)))))
  |_,_=>fail
 |op=>match a,b with
  | .int k x,.int k' y=>bif ikEq k k' then
    match op with
    | .add=>K (.int k (k.wrap (x+y)))
    | .sub=>K (.int k (k.wrap (x-y)))
    | .mul=>K (.int k (k.wrap (x*y)))
    | .quo=>M.chk (!(y==0)) (K (.int k (k.wrap (x.tdiv y))))
    | .rem=>M.chk (!(y==0)) (K (.int k (x.tmod y)))
    | .and| .or| .xor| .andNot=>K (.int k (bits op k x y))
    | .lss=>K (.bool (decide (x<y)))
    | .leq=>K (.bool (decide (x≤y)))
    | .gtr=>K (.bool (decide (x>y)))
    | .geq=>K (.bool (decide (x≥y)))
    |_=>fail
   else fail
  | .str x,.str y=>
   match op with
   | .add=>M.chk (Nat.ble (x.length+y.length) 4611686018427387904) (K (.str (x++y)))
   | .lss=>K (.bool (strLt x y))
   | .leq=>K (.bool (strLt x y||x==y))
   | .gtr=>K (.bool !(strLt x y||x==y))
   | .geq=>K (.bool !(strLt x y))
   |_=>fail
  |_,_=>fail
def unK (op:UnOp) (a:DV) (K:DV→M β):M β:=
 match op,a with
 | .not,.bool b=>K (.bool !b)
 | .neg,.int k n=>K (.int k (k.wrap (0-n)))
 |_,_=>fail
def inB (i:Int) (n:Nat):Bool:=decide (0≤i)&&decide (i<n)
def ZC (s:List UInt8) (i:Int):Int:=((s.getD i.toNat 0).toNat:Int)
def ZF (s:List UInt8):List DV:=s.map fun b=> .int .u8 b.toNat
def enc (n:Int):List UInt8:=(Utf8.encode n).data.toList
def dec (s:List UInt8) (i:Nat):Nat×Nat:=
 let at' (k:Nat):Nat:=(s.getD (i+k) 0).toNat
 let cont (k:Nat):Bool:=decide (i+k<s.length)&&at' k/64==2
 let b0:=at' 0
 if b0<0x80 then(b0,1)
 else if b0/32==6&&cont 1 then
  let c:=(b0%32)*64+at' 1%64
  if c≥0x80 then(c,2)else(Utf8.runeError,1)
 else if b0/16==14&&cont 1&&cont 2 then
  let c:=(b0%16)*4096+(at' 1%64)*64+at' 2%64
  if c≥0x800&&Utf8.valid c then(c,3)else(Utf8.runeError,1)
 else if b0/8==30&&cont 1&&cont 2&&cont 3 then
  let c:=(b0%8)*262144+(at' 1%64)*4096+(at' 2%64)*64+at' 3%64
  if c≥0x10000&&Utf8.valid c then(c,4)else(Utf8.runeError,1)
 else(Utf8.runeError,1)
def Ziv (s:List UInt8) (i:Nat):Int:=((dec s i).1:Int)
def runeW (s:List UInt8) (i:Nat):Nat:=(dec s i).2
def rep (n:Nat) (z:List DV):List DV:=(List.replicate n z).flatten
def Zdg (P:Program) (t:TypeId):Option TypeId:=match P.underlying t with|some (.slice e)=>some e|_=>none
def Zkv (P:Program) (t:TypeId):Nat:=match P.info? t with|some i=>i.bytes|none=>0
def limOf (P:Program) (e:TypeId):Nat:=70368744177664/(Zkv P e)
def Zbp (P:Program) (t:TypeId):Option (List DV):=match P.info? t with|some i=>(match i.zero with|some z=>Zl1 z.cells.toList|none=>none)|none=>none
def one:DV→Bool
 | .agg _=>false
 |_=>true
def tyK (P:Program) (t:TypeId) (K:M β):M β:=match P.underlying t with|some _=>K|none=>fail
def ZoB (P:Program) (t:TypeId) (d:DV) (K:List DV→M β):M β:=
 tyK P t (bif ZG P t then(match d with| .agg cs=>D.len cs (P.cellsOf t) (K cs)|_=>fail)
  else bif Nat.beq (P.cellsOf t) 1 then M.chk (one d) (K [d])else fail)
def splV (n m:Nat) (cs:List DV) (p:Nat) (ds:List DV):List DV:=bif Nat.beq m n&&Nat.beq p 0 then ds else spl cs p ds
def layK (E:Env) (C:Cfg) (N:Nat) (place:Nat→Option (Nat×Nat)):List (Nat×Operand)→List DV→(List DV→M β)→M β
 |[],cs,K=>K cs
 |(i,x)::r,cs,K=>match place i with
  |none=>fail
  |some (o,n)=>bif Nat.ble (o+n) N then valK C E x fun d=>
   match d with
   | .agg ds=>D.len ds n (layK E C N place r (splV N n cs o ds) K)
   |d=>bif Nat.beq n 1 then M.chk (one d) (layK E C N place r (spl cs o [d]) K)else fail
   else fail
def ZpK (P:Program) (t:TypeId):Nat→Option (Nat×Nat):=
 match P.underlying t with
 |some (.struct fs)=>fun i=>match fs[i]? with|some f=>some (f.offset,P.cellsOf f.type)|none=>none
 |some (.array _ e)=>fun i=>some (i*P.cellsOf e,P.cellsOf e)
 |_=>fun _=>none
def Zuj (P:Program) (t:TypeId):Bool:=
 match P.underlying t with
 |some (.struct fs)=>fs.toList.all fun f=>(P.info? f.type).isSome
 |some (.array _ e)=>(P.info? e).isSome
 |_=>false
def Zmu (pr:List Nat) (o:Oper) (n:Nat) (cells:List DV) (E:Env) (K:Env→M β):M β:=
 match o.dst with
 |some t=>bif has pr t then K ⟨E.nxt+1,(t,.loc E.nxt n cells)::E.l⟩else M.new cells fun i=>K (E.put t (.v (.ptr (some (i,0)))))
 |none=>fail
def Zj6 (C:Cfg) (E:Env) (len:Nat) (lo hi:Option Operand) (K:Nat→Nat→M β):M β:=
 let low (h:Nat):M β:=match lo with
  |none=>K 0 h
  |some x=>intK C E x fun l=>M.chk (decide (0≤l)&&decide (l≤h)) (K l.toNat h)
 match hi with
 |none=>low len
 |some x=>intK C E x fun h=>M.chk (decide (0≤h)&&decide (h≤len)) (low h.toNat)
def cutS (lo hi:Bool) (s:List UInt8) (l h:Nat):List UInt8:=
 bif hi then(bif lo then(s.take h).drop l else s.take h)else(bif lo then s.drop l else s)
def cutA (lo:Bool) (a:Option (Nat×Nat)) (k:Nat):Option (Nat×Nat):=bif lo then(match a with|some (i,o)=>some (i,k+o)|none=>none)else a
def cutN (lo:Bool) (l h:Nat):Nat:=bif lo then h-l else h
def part (n:Nat) (cs:List DV) (p m:Nat):List DV:=bif Nat.beq m n&&Nat.beq p 0 then cs else(cs.drop p).take m
def rootT (pr:List Nat):List Oper→Nat→Nat→Option Nat
 |_,0,_=>none
 |ops,n+1,t=>bif has pr t then some t else
  match ops.find? fun o=>match o.dst with|some d=>Nat.beq d t|none=>false with
  |some o=>match o.op with
   | .fieldAddr _ (.tmp u) _| .indexAddr _ (.tmp u) _| .move (.tmp u)| .nilCheck (.tmp u)=>rootT pr ops n u
   |_=>none
  |none=>none
def modsO (pr:List Nat) (ops:List Oper):List Oper→List Nat
 |[]=>[]
 |o::r=>
  let m:=modsO pr ops r
  let m:=match o.dst with|some d=>d::m|none=>m
  match o.op with
  | .store _ (.tmp a) _=>match rootT pr ops 12 a with|some t=>t::m|none=>m
  | .next (.tmp t) _=>t::m
  |_=>m
def mods (pr:List Nat):Code→List Nat
 | .region _ ops _=>modsO pr ops.toList ops.toList
 | .seq a b| .cond _ a b=>mods pr a++mods pr b
 | .block _ b| .loop b| .scope b=>mods pr b
 |_=>[]
inductive Cls where
 |pure|hp|wr|call|rdL (r:Nat)|wrL (r:Nat)
 |lp (a:Nat)|ap (bs:List Nat)
inductive Md where
 |s
 |d (k:Cls) (x:Nat)
def Md.loc:Md→Nat→Bool
 | .s,_=>true
 | .d (.rdL q) _,r=>Nat.beq q r
 | .d (.wrL q) _,r=>Nat.beq q r
 |_,_=>false
def Md.far:Md→Bool
 | .s=>true
 | .d (.rdL _) _=>false
 | .d (.wrL _) _=>false
 |_=>true
def Md.x:Md→Nat
 | .s=>0
 | .d _ x=>x
def cls (P:Program) (pr:List Nat) (ops:List Oper) (o:Oper):Cls:=
 match o.op with
 | .load _ (.tmp a)=>match rootT pr ops 12 a with|some r=> .rdL r|none=> .lp a
 | .load _ _=> .hp
 | .store _ (.tmp a) _=>match rootT pr ops 12 a with|some r=> .wrL r|none=> .ap []
 | .store .. => .wr
 | .alloc _| .box _ _| .buildSlice .. | .makeSlice .. | .convert .. | .range .. => .hp
 | .slice t .. =>match P.underlying t with|some (.array _ _)=> .hp|_=> .pure
 | .move _| .assign _| .pick .. | .build .. | .nilCheck _| .binOp .. | .unOp .. | .fieldAddr .. | .field .. | .indexAddr .. | .index .. | .extract .. | .makeInterface .. | .makeFunc .. => .pure
 | .call q=>match q.callee with
  | .builtin .len| .builtin .min| .builtin .max=> .pure
  | .builtin .append=> .ap []
  | .value _=>bif has pr 1000000 then .ap []else .call
  |_=> .wr
 | .next (.tmp t) _=> .wrL t
 |_=> .wr
section
variable (C:Cfg) (E:Env) (o:Oper) (K:Env→M β)
def putK (d:DV):M β:=K (E.putO o.dst (.v d))
def putE (e:Ent):M β:=K (E.putO o.dst e)
def Zs9 (b y z:Operand):M β:=boolK C E b fun b=>bif b then putE E o K (E.src C y)else putE E o K (E.src C z)
def Zpy (pr:List Nat) (t:TypeId):M β:=
 match Zbp C.P t with
 |some z=>bif Nat.beq z.length (C.P.cellsOf t)then Zmu pr o (C.P.cellsOf t) z E K else fail
 |none=>fail
def opBox (pr:List Nat) (t:TypeId) (y:Operand):M β:=valK C E y fun d=>ZoB C.P t d fun cs=>Zmu pr o (C.P.cellsOf t) cs E K
def Zqp (t:TypeId) (ps:Array (Nat×Operand)):M β:=
 match Zbp C.P t with
 |some z=>bif Zuj C.P t then layK E C z.length (ZpK C.P t) ps.toList z fun cs=>putK E o K (.agg cs)else fail
 |none=>fail
def ZhZ (t:TypeId) (len:Nat) (ps:Array (Nat×Operand)):M β:=
 match Zdg C.P t with
 |some e=>match Zbp C.P e with
  |some z=>bif Nat.ble (len*C.P.cellsOf e) 100000&&Nat.beq z.length (C.P.cellsOf e)then
    layK E C (len*C.P.cellsOf e) (fun i=>some (i*C.P.cellsOf e,C.P.cellsOf e)) ps.toList (rep len z) fun cs=>
     M.new cs fun i=>putK E o K (.slice (C.P.cellsOf e) (some (i,0)) len)
    else fail
  |none=>fail
 |none=>fail
def ZoX (md:Md) (t:TypeId) (a:Operand):M β:=
 tyK C.P t (addrK C E a
  (fun r v p=>bif md.loc r then Zow E r v fun n cs=>
   match shOf C.P t with
   | .b y=>D.nth cs p fun d=>d1 y d (putK E o K)
   | .agg _=>M.chk (Nat.ble (p+C.P.cellsOf t) n) (putK E o K (.agg (part n cs p (C.P.cellsOf t))))
   else fail)
  (fun i p=>bif md.far then
   match shOf C.P t with
   | .b y=>M.load1 i p fun d=>d1 y d (putK E o K)
   | .agg l=>M.load i p (C.P.cellsOf t) fun cs=>Zbv l cs fun ds=>putK E o K (.agg ds)
   else fail))
def Zp7 (md:Md) (ms:List Nat) (t:TypeId) (a y:Operand):M β:=
 valK C E y fun d=>ZoB C.P t d fun ds=>addrK C E a
  (fun r v p=>bif has ms r&&md.loc r then Zow E r v fun n cs=>M.chk (Nat.ble (p+C.P.cellsOf t) n) (K (E.put r (.loc v n (splV n (C.P.cellsOf t) cs p ds))))else fail)
  (fun i p=>bif md.far then M.store i p ds (K E)else fail)
def ZkN (y:Operand):M β:=addrK C E y (fun r v p=>putE E o K (.pl r v p)) (fun i p=>putK E o K (.ptr (some (i,p))))
def opBin (op:BinOp) (t:TypeId) (y z:Operand):M β:=valK C E y fun a=>valK C E z fun b=>binK (C.P.underlying t) (C.eqT t) op a b (putK E o K)
def opUn (op:UnOp) (y:Operand):M β:=valK C E y fun a=>unK op a (putK E o K)
def isU8 (P:Program) (e:TypeId):Bool:=match P.underlying e with|some (.int .u8)=>true|_=>false
def Zme (s t:TypeId) (y:Operand):M β:=
 tyK C.P s (match C.P.underlying t with
  |some (.int k)=>valK C E y fun d=>(match d with| .int _ n=>putK E o K (.int k (k.wrap n))|_=>fail)
  |some .string=>(match C.P.underlying s with
   |some (.int _)=>valK C E y fun d=>(match d with| .int _ n=>putK E o K (.str (enc n))|_=>fail)
   |some .string=>valK C E y fun d=>(match d with| .str l=>putK E o K (.str l)|_=>fail)
   |some (.slice e)=>bif isU8 C.P e then valK C E y fun d=>(match d with
    | .slice z a n=>bif Nat.beq z 1||a.isNone then M.rd a n fun cs=>D.oct cs fun l=>putK E o K (.str l)else fail
    |_=>fail)else fail
   |_=>fail)
  |some (.slice e)=>bif isU8 C.P e then valK C E y fun d=>(match d with
    | .str l=>M.new (ZF l) fun i=>putK E o K (.slice 1 (some (i,0)) l.length)
    |_=>fail)else fail
  |_=>fail)
def ZpD (t:TypeId) (y:Operand):M β:=
 match C.P.underlying t with
 |some (.interface _)=>fail
 |some _=>valK C E y fun d=>putK E o K (.iface (C.ty t) d)
 |none=>fail
def ZsJ (f:Fn) (first cap:Array Operand):M β:=
 match f with
 | .func f=>bif C.cov f then valsK C E first.toList fun fs=>valsK C E cap.toList fun cs=>putK E o K (.func (C.fn f) fs cs)else fail
 |_=>fail
def ZjH (t:TypeId) (l c:Operand):M β:=
 match Zdg C.P t with
 |some e=>match Zbp C.P e with
  |some z=>bif Nat.beq z.length (C.P.cellsOf e)then intK C E l fun n=>intK C E c fun m=>
    M.chk (decide (0≤n)&&decide (n≤m)&&decide (m≤limOf C.P e)) (M.new (rep n.toNat z) fun i=>putK E o K (.slice (C.P.cellsOf e) (some (i,0)) n.toNat))else fail
  |none=>fail
 |none=>fail
def Zqq (t:TypeId) (y:Operand) (lo hi:Option Operand):M β:=
 match C.P.underlying t with
 |some .string=>valK C E y fun d=>(match d with
  | .str s=>Zj6 C E s.length lo hi fun l h=>putK E o K (.str (cutS lo.isSome hi.isSome s l h))
  |_=>fail)
 |some (.slice e)=>tyK C.P e (valK C E y fun d=>(match d with
  | .slice z a n=>bif Nat.beq z (C.P.cellsOf e)||a.isNone then Zj6 C E n lo hi fun l h=>putK E o K (.slice z (cutA lo.isSome a (l*C.P.cellsOf e)) (cutN lo.isSome l h))else fail
  |_=>fail))
 |some (.array m e)=>tyK C.P e (valK C E y fun d=>(match d with
  | .ptr a=>M.nn a fun i p=>M.load i p (m*C.P.cellsOf e) fun _=>Zj6 C E m lo hi fun l h=>putK E o K (.slice (C.P.cellsOf e) (cutA lo.isSome (some (i,p)) (l*C.P.cellsOf e)) (cutN lo.isSome l h))
  |_=>fail))
 |_=>fail
def ZgC (t:TypeId) (y:Operand) (f:Nat):M β:=
 match C.P.underlying t with
 |some (.struct fs)=>(match fs[f]? with
  |some f=>bif Nat.beq (C.P.cellsOf f.type) 0 then fail else addrK C E y (fun r v p=>putE E o K (.pl r v (p+f.offset))) (fun i p=>putK E o K (.ptr (some (i,p+f.offset))))
  |none=>fail)
 |_=>fail
def Zp3 (t:TypeId) (y:Operand) (f:Nat):M β:=
 match C.P.underlying t with
 |some (.struct fs)=>(match fs[f]? with
  |some f=>tyK C.P f.type (valK C E y fun d=>(match d with
   | .agg cs=>bif ZG C.P f.type then putK E o K (.agg ((cs.drop f.offset).take (C.P.cellsOf f.type)))else D.nth cs f.offset fun d=>dsh (shOf C.P f.type) d (putK E o K)
   |_=>fail))
  |none=>fail)
 |_=>fail
def ZjG (t:TypeId) (y i:Operand):M β:=
 intK C E i fun n=>match C.P.underlying t with
 |some (.slice e)=>tyK C.P e (valK C E y fun d=>(match d with
  | .slice z a m=>bif Nat.beq z (C.P.cellsOf e)||a.isNone then M.nn a fun j p=>M.chk (inB n m) (putK E o K (.ptr (some (j,n.toNat*C.P.cellsOf e+p))))else fail
  |_=>fail))
 |some (.array m e)=>tyK C.P e (addrK C E y
  (fun r v p=>M.chk (inB n m) (putE E o K (.pl r v (n.toNat*C.P.cellsOf e+p))))
  (fun j p=>M.chk (inB n m) (putK E o K (.ptr (some (j,n.toNat*C.P.cellsOf e+p))))))
 |_=>fail
def Zqo (t:TypeId) (y i:Operand):M β:=
 intK C E i fun n=>valK C E y fun d=>match C.P.underlying t,d with
 |some .string,.str s=>M.chk (inB n s.length) (putK E o K (.int .u8 (ZC s n)))
 |some (.array m e),.agg cs=>tyK C.P e (M.chk (inB n m) (bif ZG C.P e then putK E o K (.agg ((cs.drop (n.toNat*C.P.cellsOf e)).take (C.P.cellsOf e)))else D.nth cs (n.toNat*C.P.cellsOf e) fun d=>dsh (shOf C.P e) d (putK E o K)))
 |_,_=>fail
def ZpC (t:TypeId) (y:Operand):M β:=
 match C.P.underlying t with
 |some .string=>valK C E y fun d=>match d,o.dst with
  | .str s,some t=>K ⟨E.nxt+1,(t,.it E.nxt s 0)::E.l⟩
  |_,_=>fail
 |_=>fail
def ZsL (ms:List Nat) (t:Nat):M β:=
 match E.get t,o.dst with
 | .it v s p,some d=>bif Nat.beq d t|| !has ms t then fail else
   bif Nat.blt p s.length then K ((E.put t (.it v s (p+runeW s p))).put d (.tup [.bool true,.int .i64 p,.int .i32 (Ziv s p)]))
   else K (E.put d (.tup [.bool false]))
 |_,_=>fail
def panK (md:Md):M β:=bif Nat.beq md.x 0 then M.pan else fail
def ZnU (md:Md) (t:TypeId) (y:Operand):M β:=
 match C.P.underlying t with
 |some (.interface _)=>fail
 |some _=>valK C E y fun d=>D.asr (panK md) d (C.ty t) fun d=>dsh (shOf C.P t) d (putK E o K)
 |none=>fail
def ZlP (t i:Nat):M β:=
 match E.get t with
 | .tup ds=>(match ds[i]? with|some d=>putK E o K d|none=>fail)
 |_=>fail
def Zqa (md:Md) (y:Operand):M β:=valK C E y fun d=>match d with| .iface _ _=>panK md|_=>fail
noncomputable def callK (md:Md) (m:M (List DV)) (K:List DV→M β):M β:=
 match md.x with
 |0=>M.call m K
 |1=>M.callN m K
 |_=>M.callX m K
def Md.bs:Md→List Nat
 | .d (.ap bs) _=>bs
 |_=>[]
noncomputable def chkC (E:Env):List Nat→M (List DV)→M (List DV)
 |[],m=>m
 |b::r,m=>match E.get b with
  | .v (.ptr (some (i,_)))=>M.keep i (chkC E r m)
  |_=>fail
noncomputable def Zto (md:Md) (c:Zg) (f:Operand) (as:Array Operand):M β:=
 valK C E f fun fv=>valsK C E as.toList fun as=>match fv with
 | .func g fs cs=>match resOf C.P o.type with
  |(true,shs)=>bif Nat.beq shs.length 1 then fail else callK md (chkC E md.bs (c g (fs++as++cs))) fun ds=>dlist shs ds fun ds=>putE E o K (.tup ds)
  |(false,shs)=>callK md (chkC E md.bs (c g (fs++as++cs))) fun ds=>dlist shs ds fun ds=>match ds with|[d]=>putK E o K d|_=>fail
 |_=>fail
def opLen (ts:Array TypeId) (as:Array Operand):M β:=
 match as.toList,ts[0]? with
 |[y],some t=>(match C.P.underlying t with
  |some (.array m _)=>putK E o K (.int .i64 m)
  |some .string=>valK C E y fun d=>(match d with| .str s=>putK E o K (.int .i64 s.length)|_=>fail)
  |some (.slice _)=>valK C E y fun d=>(match d with| .slice _ _ n=>putK E o K (.int .i64 n)|_=>fail)
  |_=>fail)
 |_,_=>fail
def noNum (P:Program) (ts:Array TypeId) (K:M β):M β:=
 match ts[1]? with
 |none=>K
 |some t=>match P.underlying t with
  |some (.int _)=>fail
  |some _=>K
  |none=>fail
def Znx (ts:Array TypeId) (as:Array Operand):M β:=
 match as.toList,ts[0]? with
 |[y,z],some t=>(match Zdg C.P t with
  |some e=>tyK C.P e (noNum C.P ts (match Zbp C.P e with
   |some zv=>bif !Nat.beq zv.length (C.P.cellsOf e)then fail else valK C E y fun a=>valK C E z fun b=>(match a,b with
    | .slice w p n,.slice w' p' m=>bif (Nat.beq w (C.P.cellsOf e)||p.isNone)&&(Nat.beq w' (C.P.cellsOf e)||p'.isNone)then
      M.rd p' (m*C.P.cellsOf e) fun ds=>M.app (C.P.cellsOf e) p n ds m (limOf C.P e) fun p''=>putK E o K (.slice (C.P.cellsOf e) p'' (n+m))else fail
    | .slice w p n,.str l=>bif (Nat.beq w 1||p.isNone)&&Nat.beq (C.P.cellsOf e) 1 then M.app 1 p n (ZF l) l.length (limOf C.P e) fun p''=>putK E o K (.slice 1 p'' (n+l.length))else fail
    |_,_=>fail)
   |none=>fail))
  |none=>fail)
 |_,_=>fail
def ZtG (ts:Array TypeId) (as:Array Operand):M β:=
 match as.toList,ts[0]? with
 |[y,z],some t=>(match Zdg C.P t with
  |some e=>tyK C.P e (valK C E y fun a=>valK C E z fun b=>(match a,b with
   | .slice w p n,.slice w' p' m=>bif (Nat.beq w (C.P.cellsOf e)||p.isNone)&&(Nat.beq w' (C.P.cellsOf e)||p'.isNone)then M.rd p' (min m n*C.P.cellsOf e) fun ds=>M.wr p ds (putK E o K (.int .i64 (min m n)))else fail
   | .slice w p n,.str l=>bif (Nat.beq w 1||p.isNone)&&Nat.beq (C.P.cellsOf e) 1 then M.wr p (ZF (l.take n)) (putK E o K (.int .i64 (min l.length n)))else fail
   |_,_=>fail))
  |none=>fail)
 |_,_=>fail
def opMin (mx:Bool) (as:Array Operand):M β:=
 match as.toList with
 |[y,z]=>valK C E y fun a=>valK C E z fun b=>(match a,b with
  | .int k a,.int k' b=>bif ikEq k k' then putK E o K (.int k (bif mx then(if a<b then b else a)else(if b<a then b else a)))else fail
  |_,_=>fail)
 |_=>fail
def Zqm (ts:Array TypeId) (as:Array Operand):M β:=
 match as.toList,ts[0]? with
 |[y],some t=>(match Zdg C.P t with
  |some e=>valK C E y fun a=>(match a,Zbp C.P e with
   | .slice w p n,some z=>bif (Nat.beq w (C.P.cellsOf e)||p.isNone)&&Nat.beq z.length (C.P.cellsOf e)then M.wr p (rep n z) (putE E o K (.tup []))else fail
   |_,_=>fail)
  |none=>fail)
 |_,_=>fail
end
def apart (p:Option (Nat×Nat)) (i:Nat):Bool:=match p with|some (j,_)=> !Nat.beq i j|none=>true
def chkB (E:Env) (p:Option (Nat×Nat)):List Nat→M β→M β
 |[],K=>K
 |b::r,K=>match E.get b with
  | .v (.ptr (some (i,_)))=>M.chk (apart p i) (chkB E p r K)
  |_=>fail
def apK (C:Cfg) (E:Env) (bs:List Nat) (as:Array Operand) (X:M β):M β:=
 match bs with
 |[]=>X
 |b::r=>match as.toList with
  |y::_=>valK C E y fun a=>(match a with| .slice _ p _=>chkB E p (b::r) X|_=>fail)
  |_=>fail
def stK (C:Cfg) (E:Env) (bs:List Nat) (a:Operand) (X:M β):M β:=
 match bs with
 |[]=>X
 |b::r=>match E.src C a with
  | .v (.ptr p)=>chkB E p (b::r) X
  |_=>fail
noncomputable def opK (C:Cfg) (pr ms:List Nat) (md:Md) (c:Zg) (o:Oper) (E:Env) (K:Env→M β):M β:=
 match o.op with
 | .move y| .assign y=>putE E o K (E.src C y)
 | .pick b y z=>Zs9 C E o K b y z
 | .alloc t=>Zpy C E o K pr t
 | .box t y=>opBox C E o K pr t y
 | .build t ps=>Zqp C E o K t ps
 | .buildSlice t len ps=>ZhZ C E o K t len ps
 | .load t a=>ZoX C E o K md t a
 | .store t a y=>bif o.dst.isNone then stK C E md.bs a (Zp7 C E K md ms t a y)else fail
 | .nilCheck y=>ZkN C E o K y
 | .binOp op t y z _=>opBin C E o K op t y z
 | .unOp op _ y=>opUn C E o K op y
 | .convert s t y=>Zme C E o K s t y
 | .makeInterface t y=>ZpD C E o K t y
 | .makeFunc f first cap=>ZsJ C E o K f first cap
 | .makeSlice t l c=>ZjH C E o K t l c
 | .slice t y lo hi none=>Zqq C E o K t y lo hi
 | .fieldAddr t y f=>ZgC C E o K t y f
 | .field t y f=>Zp3 C E o K t y f
 | .indexAddr t y i=>ZjG C E o K t y i
 | .index t y i=>Zqo C E o K t y i
 | .range t y=>ZpC C E o K t y
 | .next (.tmp t) true=>ZsL E o K ms t
 | .typeAssert y _ t false=>ZnU C E o K md t y
 | .extract (.tmp t) i=>ZlP E o K t i
 | .panic y=>Zqa C E md y
 | .call q=>match q.callee with
  | .value f=>Zto C E o K md c f q.args
  | .builtin .len=>opLen C E o K q.argTypes q.args
  | .builtin .append=>apK C E md.bs q.args (Znx C E o K q.argTypes q.args)
  | .builtin .copy=>ZtG C E o K q.argTypes q.args
  | .builtin .min=>opMin C E o K false q.args
  | .builtin .max=>opMin C E o K true q.args
  | .builtin .clear=>Zqm C E o K q.argTypes q.args
  |_=>fail
 |_=>fail
def ptrK (C:Cfg) (E:Env) (x:Operand) (K:Nat→Nat→M β):M β:=match E.src C x with
 | .v (.ptr (some (i,p)))=>K i p
 |_=>fail
def cellK (i p:Nat) (K:IntKind→Int→M β):M β:=M.load1 i p fun d=>match d with
 | .int k n=>K k n
 |_=>fail
def sameK (i p:Nat) (k:IntKind) (n:Int) (K:M β):M β:=M.load1 i p fun d=>match d with
 | .int k' n'=>bif ikEq k k'&&(n==n')then K else fail
 |_=>fail
def dstsO:List (Oper×Md)→List Nat
 |[]=>[]
 |(o,_)::r=>match o.dst with|some d=>d::dstsO r|none=>dstsO r
def Zf2 (r:Nat):List (Oper×Md)→List (Oper×Md)→Option (List (Oper×Md)×Oper×List (Oper×Md))
 |_,[]=>none
 |acc,(o,x)::rest=>match o.op with
  | .pick (.tmp t) _ _=>bif Nat.beq t r then some (acc.reverse,o,rest)else Zf2 r ((o,x)::acc) rest
  |_=>Zf2 r ((o,x)::acc) rest
def gHas:List (Nat×Bool)→Nat×Bool→Bool
 |[],_=>false
 |(k,b)::r,g=>(Nat.beq k g.1&&(b==g.2))||gHas r g
def gOk (act:List (Nat×Bool)):Option (Nat×Bool)→Bool
 |none=>true
 |some g=>gHas act g
def grpOk (pr:List Nat) (dst:Nat→Option Nat) (j:Nat) (w:Bool) (r:Nat):List Nat→List (Oper×Md)→Bool
 |_,[]=>true
 |skipped,(o,_)::rest=>
  (match o.op with
   | .store .. | .next .. | .range .. =>false
   | .alloc _| .box _ _=>(match o.dst with|some d=> !has pr d|none=>false)
   |_=>true)&&
  (match o.guard with
   |none=>false
   |some (j',w')=>(Nat.beq j' j&&(w'==w))||(match dst j' with|some d=>has skipped d|none=>false))&&
  (match o.dst with
   |some d=> !Nat.beq d r&&grpOk pr dst j w r (d::skipped) rest
   |none=>grpOk pr dst j w r skipped rest)
noncomputable def ZcP (C:Cfg) (pr ms:List Nat) (c:Zg) (dst:Nat→Option Nat):Nat→List (Oper×Md)→List (Nat×Bool)→Env→(Env→M β)→M β
 |_,[],_,E,K=>K E
 |0,_::_,_,_,_=>fail
 |n+1,(o,x)::rest,act,E,K=>
  bif gOk act o.guard then opK C pr ms x c o E fun E'=>ZcP C pr ms c dst n rest act E' K
  else match o.guard with
   |none=>fail
   |some (j,w)=>match dst j with
    |none=>fail
    |some r=>match E.get r,Zf2 r [] ((o,x)::rest)with
     | .v (.bool b),some (grp,pk,rest')=>match pk.op,pk.dst with
      | .pick _ y z,some t=>
       bif gOk act pk.guard&&grpOk pr dst j w r [] grp then
        M.join (fun st=>D.cons st fun d st=>D.bool d fun v=>D.nil st (ZcP C pr ms c dst n rest' act ((E.del (dstsO grp)).put t (.v (.bool v))) K))
         fun jk=>
          let yes:M β:=ZcP C pr ms c dst n grp ((j,w)::act) (E.put r (.v (.bool w))) fun E1=>valK C E1 (bif w then y else z) fun d=>jk [d]
          let no:M β:=valK C ((E.del (dstsO grp)).put r (.v (.bool !w))) (bif w then z else y) fun d=>jk [d]
          bif w then(bif b then yes else no)else(bif b then no else yes)
       else fail
      |_,_=>fail
     |_,_=>fail
def clash:Cls→Cls→Bool
 | .pure,_|_,.pure=>false
 | .wrL r,.rdL q| .rdL r,.wrL q| .wrL r,.wrL q=>Nat.beq r q
 | .rdL _,_|_,.rdL _| .wrL _,_|_,.wrL _=>false
 | .ap bs,.lp b| .lp b,.ap bs=> !has bs b
 | .wr,_|_,.wr| .ap _,_|_,.ap _=>true
 | .call,.call=>true
 |_,_=>false
def Zs4:Cls→Cls→Bool
 | .ap _,.lp _=>true
 |k,k'=>clash k k'
structure OpI where
 bf:Nat
 k:Cls
 dst:Option Nat
 lk:Nat
def befM (o:Oper) (acc:List Nat):Nat:=o.after.toList.foldl (fun m e=>bif Region.binds .any e then m|||2^e.on|||acc.getD e.on 0 else m) 0
def lookM (pr:List Nat) (ops:List Oper) (o:Oper):Nat:=
 let m:=o.op.operands.toList.foldl (fun m x=>match x with| .tmp t=>m|||2^t|_=>m) 0
 let m:=match o.guard with
  |some (j,_)=>(match ops[j]? with|some g=>(match g.dst with|some t=>m|||2^t|none=>m)|none=>m)
  |none=>m
 match o.op with
 | .load _ (.tmp a)=>(match rootT pr ops 12 a with|some r=>m|||2^r|none=>m)
 | .store _ (.tmp a) _=>(match rootT pr ops 12 a with|some r=>m|||2^r|none=>m)
 |_=>m
def bsGo (m:Nat):Nat→List Oper→List Nat
 |_,[]=>[]
 |j,o::r=>match o.op with
  | .load _ (.tmp b)=>bif m.testBit j then bsGo m (j+1) r else b::bsGo m (j+1) r
  |_=>bsGo m (j+1) r
def loads (b:Nat) (o:Oper):Bool:=match o.op with
 | .load _ (.tmp a)=>Nat.beq a b
 |_=>false
def keepB (b:Nat):List Oper→Bool
 |[]=>true
 |o::r=>bif loads b o then(o::r).all (fun o=>match o.dst with|some d=> !Nat.beq d b|none=>true)else keepB b r
def setBs (pr:List Nat) (ops:List Oper) (k m:Nat):Cls→Cls
 | .ap _=> .ap ((bsGo m 0 (ops.take k)).filter fun b=>keepB b (ops.take k)&&(rootT pr ops 12 b).isNone)
 |c=>c
def prep (P:Program) (pr:List Nat) (ops:List Oper):List Oper→List Nat→List OpI
 |[],_=>[]
 |o::r,acc=>let b:=befM o acc;⟨b,setBs pr ops acc.length b (cls P pr ops o),o.dst,lookM pr ops o⟩::prep P pr ops r (acc++[b])
def dstIn (d:Option Nat) (m:Nat):Bool:=match d with|some t=>m.testBit t|none=>false
def dstEq (d e:Option Nat):Bool:=match d,e with|some t,some u=>Nat.beq t u|_,_=>false
def ZoA (i:Nat) (p:OpI):List OpI→Bool
 |[]=>true
 |q::r=>(q.bf.testBit i||(!Zs4 p.k q.k&& !dstIn p.dst q.lk&& !dstIn q.dst p.lk&& !dstEq p.dst q.dst))&&ZoA i p r
def okAll:Nat→List OpI→List Oper→Bool
 |_,[],_=>true
 |_,_::_,[]=>false
 |i,p::r,o::os=>Nat.blt p.bf (2^i)&&(match o.guard with|some (j,_)=>p.bf.testBit j|none=>true)&&ZoA i p r&&okAll (i+1) r os
def Zcr (i bi:Nat) (f:Cls→Bool):Nat→List OpI→Bool
 |_,[]=>false
 |j,q::r=>(!Nat.beq i j&& !q.bf.testBit i&& !bi.testBit j&&f q.k)||Zcr i bi f (j+1) r
def isHp:Cls→Bool
 | .hp=>true
 | .lp _=>true
 |_=>false
def Zic:Cls→Bool
 | .pure=>true
 | .rdL _=>true
 |_=>false
def ZdY (i bi:Nat):Nat→List OpI→Bool
 |_,[]=>false
 |j,q::r=>(!Nat.beq i j&& !q.bf.testBit i&& !bi.testBit j&& !(Nat.blt j i&&Zic q.k))||ZdY i bi (j+1) r
def mpO (mp:Nat→Bool) (o:Oper):Bool:=match o.op with
 | .call q=>(match q.callee with
  | .value (.func f)=>mp f
  |_=>false)
 |_=>false
def flags (mp:Nat→Bool) (all:List OpI):Nat→List OpI→List Oper→List (Oper×Md)
 |_,[],_=>[]
 |_,_,[]=>[]
 |i,p::r,o::os=>
  (o,.d p.k (bif Zcr i p.bf (fun _=>true) 0 all then(bif mpO mp o&& !ZdY i p.bf 0 all then 0 else(match p.k with| .call=>(bif Zcr i p.bf isHp 0 all then 2 else 1)|_=>1))else 0))::flags mp all (i+1) r os
noncomputable def regK (C:Cfg) (pr:List Nat) (c:Zg) (ops:Array Oper) (draw:Bool) (E:Env) (K:Env→M β):M β:=
 let l:=ops.toList
 let ms:=modsO pr l l
 let dst (j:Nat):Option Nat:=match l[j]? with|some o=>o.dst|none=>none
 bif draw then
  let is:=prep C.P pr l l []
  bif okAll 0 is l then ZcP C pr ms c dst l.length (flags C.mp is 0 is l) [] E K else fail
 else ZcP C pr ms c dst l.length (l.map fun o=>(o,.s)) [] E K
inductive JS where
 |v (x:Sh)
 |l (x:List B)
 |t
inductive Ann where
 |z
 |n (a b:Ann)
 |j (J:List (Nat×JS)) (a b:Ann)
def Ann.a:Ann→Ann| .n a _=>a| .j _ a _=>a| .z=> .z
def Ann.b:Ann→Ann| .n _ b=>b| .j _ _ b=>b| .z=> .z
def getJ (E0 E:Env):List (Nat×JS)→(List DV→M β)→M β
 |[],K=>K []
 |(t,x)::r,K=>match x,E.get t with
  | .v _,.v d=>getJ E0 E r fun ds=>K (d::ds)
  | .l _,.loc v _ cs=>(match E0.get t with| .loc v0 _ _=>bif Nat.beq v0 v then getJ E0 E r fun ds=>K (.agg cs::ds)else fail|_=>fail)
  | .t,.it v _ p=>(match E0.get t with| .it v0 _ _=>bif Nat.beq v0 v then getJ E0 E r fun ds=>K (.nat p::ds)else fail|_=>fail)
  |_,_=>fail
def putJ (E:Env):List (Nat×JS)→List DV→Env→(Env→M β)→M β
 |[],st,E1,K=>D.nil st (K E1)
 |(t,x)::r,st,E1,K=>D.cons st fun d rest=>match x,E.get t with
  | .v x,_=>dsh x d fun d=>putJ E r rest (E1.put t (.v d)) K
  | .l x,.loc v n _=>D.agg d fun cs=>Zbv x cs fun cs=>putJ E r rest (E1.put t (.loc v n cs)) K
  | .t,.it v s _=>D.nat d fun p=>putJ E r rest (E1.put t (.it v s p)) K
  |_,_=>fail
def okJ (dels:List Nat):List (Nat×JS)→Bool
 |[]=>true
 |(t,_)::r=>has dels t&&okJ dels r
noncomputable def joinK (E:Env) (dels:List Nat) (J:List (Nat×JS)) (K:Env→M β) (g:((Env→M β)→M β)):M β:=
 bif okJ dels J then M.join (fun st=>putJ E J st (E.del dels) K) fun jk=>g fun E1=>getJ E E1 J jk else fail
noncomputable def exec (C:Cfg) (pr:List Nat) (c:Zg) (n:Nat):Code→Ann→(Env→M β)→(Nat→Env→M β)→(Env→M β)→Env→M β
 | .skip,_,kn,_,_,E=>kn E
 | .seq a b,A,kn,kx,kr,E=>exec C pr c n a A.a (fun E'=>exec C pr c n b A.b kn kx kr E') kx kr E
 | .region _ ops d,_,kn,_,_,E=>regK C pr c ops d E kn
 | .cond x a b,A,kn,kx,kr,E=>boolK C E x fun v=>
   match A with
   | .j J A1 A2=>joinK E (mods pr a++mods pr b) J kn fun jk=>bif v then exec C pr c n a A1 jk kx kr E else exec C pr c n b A2 jk kx kr E
   |A=>bif v then exec C pr c n a A.a kn kx kr E else exec C pr c n b A.b kn kx kr E
 | .block id body,A,kn,kx,kr,E=>
   match A with
   | .j J A1 _=>joinK E (mods pr body) J kn fun jk=>exec C pr c n body A1 jk (fun i E1=>bif Nat.beq i id then jk E1 else kx i E1) kr E
   |A=>exec C pr c n body A.a kn (fun i E1=>bif Nat.beq i id then kn E1 else kx i E1) kr E
 | .loop body,A,_,kx,kr,E=>
   match A with
   | .j J A1 _=>bif okJ (mods pr body) J then getJ E E J fun st=>M.loop (fun rec st=>putJ E J st (E.del (mods pr body)) fun E1=>exec C pr c n body A1 (fun E2=>getJ E E2 J rec) kx kr E1) n st else fail
   |_=>fail
 | .exit id,_,_,kx,_,E=>kx id E
 | .ret,_,_,_,kr,E=>kr E
 |_,_,_,_,_,_=>fail
def okO (ok:Nat→Bool):List Oper→Bool
 |[]=>true
 |o::r=>(match o.dst with|some d=>ok d|none=>true)&&okO ok r
def okC (ok:Nat→Bool):Code→Bool
 | .region _ ops _=>okO ok ops.toList
 | .seq a b| .cond _ a b=>okC ok a&&okC ok b
 | .block _ b| .loop b| .scope b=>okC ok b
 |_=>true
def okN (n d:Nat):Bool:=Nat.blt d n
structure FA where
 pr:List Nat
 ann:Ann
 frz:Bool
def resK (C:Cfg) (E:Env):List ResultVar→(List DV→M β)→M β
 |[],K=>K []
 | .tmp t::r,K=>valK C E (.tmp t) fun d=>resK C E r fun ds=>K (d::ds)
 | .cell a t::r,K=>match E.get a with
  | .loc _ n cs=>tyK C.P t (bif ZG C.P t then(bif Nat.beq n (C.P.cellsOf t)then resK C E r fun ds=>K (.agg cs::ds)else fail)else D.nth cs 0 fun d=>resK C E r fun ds=>K (d::ds))
  |_=>fail
def argsE:Nat→List DV→List (Nat×Ent)
 |_,[]=>[]
 |t,d::r=>(t,.v d)::argsE (t+1) r
noncomputable def bodyM (C:Cfg) (A:FA) (fn:Func) (c:Zg) (n:Nat) (args:List DV):M (List DV):=
 match fn.body with
 |some code=>bif okC (okN fn.ntmps) code&&Nat.ble (fn.params.size+fn.nfree) fn.ntmps then dlist (fn.params.toList.map (shOf C.P)++List.replicate fn.nfree (.b .ptr)) args fun ds=>
   bif A.frz then M.base fun b=>
    let kr (E:Env):M (List DV):=resK C E fn.results.toList fun ds=>M.retF b ds
    exec C A.pr c n code A.ann kr (fun _ _=>fail) kr ⟨0,argsE 0 ds⟩
   else
    let kr (E:Env):M (List DV):=resK C E fn.results.toList fun ds=>M.ret ds
    exec C A.pr c n code A.ann kr (fun _ _=>fail) kr ⟨0,argsE 0 ds⟩
   else fail
 |none=>fail
abbrev Za:=Nat→Zg→Nat→List DV→M (List DV)
def run (Bd:Za):Nat→Zg
 |0,_,_=>fail
 |n+1,g,args=>Bd g (run Bd n) n args
end Go.Gv
