/- Numbers as texts: base 10. -/
import Derived.Test.YtegglibipjjblaaGreatDoorGvZPa
import Derived.Test.YtegglibipjjblaaGreatDoorGvZBod
import Derived.Lib.IndexLaws
namespace Go.Gv.F
def decS (n:Nat):List UInt8:=if n<10 then [UInt8.ofNat (48+n)] else decS (n/10)++[UInt8.ofNat (48+n%10)]
termination_by n
decreasing_by omega
def BLen (d L:Nat):Prop:=1≤L∧2^(L-1)≤d∧d<2^L
theorem BLen.shift {d s L:Nat} (h:BLen (d/2^s) L):BLen d (L+s):=by
 obtain ⟨h1,h2,h3⟩:=h
 refine ⟨by omega,?_,?_⟩
 ·rw [show L+s-1=L-1+s by omega,Nat.pow_add]
  exact (Nat.le_div_iff_mul_le (Nat.pow_pos (by omega))).1 h2
 ·rw [Nat.pow_add]
  exact (Nat.div_lt_iff_lt_mul (Nat.pow_pos (by omega))).1 h3
end Go.Gv.F
namespace Go.Gv.F
def showI (z:Int):List UInt8:=if z<0 then 45::decS z.natAbs else decS z.natAbs
end Go.Gv.F
namespace Go.Gv.F
def Zjy (x:Int) (dg:Nat) (mi:Bool) (r:Nat):Option (Int×Nat×Bool):=
 if r=45∧dg=0∧mi=false then some (x,dg,true)
 else if r<48∨57<r∨(0<dg∧x=0) then none
 else if 10*x-((r:Int)-48)< -9223372036854775808 then none
 else some (10*x-((r:Int)-48),dg+1,mi)
section
variable {β:Type} (st:St) (x:Int) (dg:Nat) (mi:Bool)
end
def ZeX (x:Int) (dg:Nat) (mi:Bool):Option Int:=
 if dg=0∨(mi=true∧x=0)∨(mi=false∧x= -9223372036854775808) then none else if mi then some x else some (-x)
def rdF:List Nat→Int→Nat→Bool→Option Int
 |[],x,dg,mi=>ZeX x dg mi
 |r::l,x,dg,mi=>match Zjy x dg mi r with
  |some (y,e,m)=>rdF l y e m
  |none=>none
def readF (s:List UInt8):Option Int:=rdF (rns s) 0 0 false
end Go.Gv.F
namespace Go.Gv.F
def isDig (r:Nat):Bool:=decide (48≤r)&&decide (r≤57)
theorem ZcR {r:Nat} :isDig r=true↔48≤r∧r≤57:=by unfold isDig;simp
def foldV (v:Nat) (l:List Nat):Nat:=l.foldl (fun a r=>10*a+(r-48)) v
theorem Zhx (v r:Nat) (l:List Nat):foldV v (r::l)=foldV (10*v+(r-48)) l:=by unfold foldV;rw [List.foldl_cons]
theorem ZkN: ∀(l:List Nat) (v:Nat),v≤foldV v l
 |[],v=>Nat.le_refl v
 |r::l,v=>by
  rw [Zhx]
  have:=ZkN l (10*v+(r-48))
  omega
theorem Zna {d:Nat} (h:d<10):decS d=[UInt8.ofNat (48+d)]:=by rw [decS,if_pos h]
theorem ZwP {v d:Nat} (hv:0<v) (hd:d<10):decS (10*v+d)=decS v++[UInt8.ofNat (48+d)]:=by
 rw [decS,if_neg (by omega),show (10*v+d)/10=v by omega,show (10*v+d)%10=d by omega]
theorem ZlH: ∀(l:List Nat) (v:Nat),0<v→(∀r∈l,isDig r=true)→decS (foldV v l)=decS v++l.map UInt8.ofNat
 |[],v,_,_=>by simp [foldV]
 |r::l,v,hv,h=>by
  have hr:=ZcR.1 (h r (by simp))
  rw [Zhx,ZlH l _ (by omega) (fun x hx=>h x (by simp [hx])),ZwP hv (by omega),show 48+(r-48)=r by omega]
  simp
theorem ZpM: ∀(l:List Nat) (v dg:Nat) (mi:Bool),0<v→v≤9223372036854775808→
  rdF l (-(v:Int)) (dg+1) mi=if l.all isDig=true∧foldV v l≤9223372036854775808 then ZeX (-(foldV v l:Int)) (dg+1+l.length) mi else none
 |[],v,dg,mi,_,hv=>by
  rw [if_pos ⟨rfl,hv⟩];rfl
 |r::l,v,dg,mi,h0,hv=>by
  simp only [rdF]
  have ge:=ZkN l (10*v+(r-48))
  unfold Zjy
  rw [if_neg (by omega)]
  by_cases hd:isDig r=true
  ·have hr:=ZcR.1 hd
   rw [if_neg (by omega)]
   by_cases hb:10*v+(r-48)>9223372036854775808
   ·rw [if_pos (by omega),if_neg (by rw [Zhx];omega)]
   ·rw [if_neg (by omega)]
    simp only
    rw [show 10*(-(v:Int))-((r:Int)-48)= -((10*v+(r-48):Nat):Int) by omega,ZpM l (10*v+(r-48)) (dg+1) mi (by omega) (by omega),Zhx,List.all_cons,hd,Bool.true_and,List.length_cons,
     show dg+1+1+l.length=dg+1+(l.length+1) by omega]
  ·have hr: ¬(48≤r∧r≤57):=fun h=>hd (ZcR.2 h)
   rw [if_pos (by omega),if_neg (by rw [List.all_cons];simp [hd])]
theorem Zs0 (l:List Nat) (dg:Nat) (mi:Bool):rdF l 0 (dg+1) mi=if l=[] then ZeX 0 (dg+1) mi else none:=by
 cases l with
 |nil=>rw [if_pos rfl];rfl
 |cons r l=>
  rw [if_neg (by simp)]
  simp only [rdF]
  unfold Zjy
  rw [if_neg (by omega),if_pos (by omega)]
theorem ZqP (r:Nat) (l:List Nat) (mi:Bool) (h:isDig r=true):rdF (r::l) 0 0 mi=rdF l (-((r-48:Nat):Int)) 1 mi:=by
 have hr:=ZcR.1 h
 simp only [rdF]
 unfold Zjy
 rw [if_neg (by omega),if_neg (by omega),if_neg (by omega)]
 simp only
 congr 1
 omega
theorem Zqp (r:Nat) (l:List Nat) (mi:Bool) (h: ¬isDig r=true) (h2:r≠45∨mi=true):rdF (r::l) 0 0 mi=none:=by
 have hr: ¬(48≤r∧r≤57):=fun h'=>h (ZcR.2 h')
 simp only [rdF]
 unfold Zjy
 rw [if_neg (by rintro ⟨a,_,b⟩;rcases h2 with h2|h2;exact h2 a;rw [b] at h2;cases h2),if_pos (by omega)]
theorem Zwv (l:List Nat):rdF (45::l) 0 0 false=rdF l 0 0 true:=by
 simp only [rdF]
 unfold Zjy
 rw [if_pos ⟨rfl,rfl,rfl⟩]
theorem ZvF {V k:Nat} (hV:0<V):ZeX (-(V:Int)) (k+1) true=some (-(V:Int)):=by
 unfold ZeX
 rw [if_neg (by simp;omega),if_pos rfl]
theorem Zvk {V k:Nat} (h:V≠9223372036854775808):ZeX (-(V:Int)) (k+1) false=some (V:Int):=by
 unfold ZeX
 rw [if_neg (by simp;omega),if_neg (by simp)]
 simp
theorem ZoG {r:Nat} (h:isDig r=true):r<128:=by have:=ZcR.1 h;omega
theorem Zzd {s:List UInt8} (h: ∀r∈rns s,r<128):s=(rns s).map UInt8.ofNat:=by
 have:=Zsr s s.length 0 (by omega) (Nat.zero_le _) (by rw [List.drop_zero];exact fun r hr=>by have:=h r hr;omega)
 rw [List.drop_zero] at this
 have key: ∀l:List Nat,(∀r∈l,r<128)→l.flatMap encF=l.map UInt8.ofNat:=by
  intro l
  induction l with
  |nil=>intro _;rfl
  |cons a l ih=>
   intro h
   rw [List.flatMap_cons,ih fun r hr=>h r (by simp [hr]),List.map_cons]
   unfold encF
   rw [if_pos (h a (by simp))]
   rfl
 rw [←key _ h];exact this.symm
theorem Zlo {s:List UInt8} {z:Int} (h:readF s=some z):s=showI z∧ -9223372036854775808≤z∧z≤9223372036854775807:=by
 unfold readF at h
 have hs: ∀l,rns s=l→(∀r∈l,r<128)→s=l.map UInt8.ofNat:=fun l hl hr=>by
  rw [←hl] at hr⊢
  exact Zzd hr
 generalize hl:rns s=l at h
 cases l with
 |nil=>cases h
 |cons r l=>
  by_cases hd:isDig r=true
  ·have hr:=ZcR.1 hd
   rw [ZqP _ _ _ hd] at h
   by_cases h0:r=48
   ·subst h0
    have e:=Zs0 l 0 false
    rw [show-((48-48:Nat):Int)=0 from rfl,e] at h
    split at h
    ·rename_i hln
     subst hln
     cases h
     rw [hs _ hl (by simp)]
     exact ⟨by unfold showI;rw [if_neg (by decide),show Int.natAbs (-0)=0 from rfl,Zna (by omega)];rfl,by decide,by decide⟩
    ·cases h
   ·rw [ZpM l (r-48) 0 false (by omega) (by omega)] at h
    split at h
    ·rename_i hc
     have ha:=List.all_eq_true.1 hc.1
     have ge:=ZkN l (r-48)
     by_cases hV:foldV (r-48) l=9223372036854775808
     ·rw [hV] at h
      unfold ZeX at h
      rw [if_pos (by simp)] at h
      cases h
     ·rw [show 0+1+l.length=l.length+1 by omega,Zvk hV] at h
      cases h
      refine ⟨?_,by omega,by omega⟩
      rw [hs _ hl (fun x hx=>by
       rcases List.mem_cons.1 hx with rfl|hx
       ·exact ZoG hd
       ·exact ZoG (ha x hx))]
      unfold showI
      rw [if_neg (by omega),Int.natAbs_natCast,ZlH l _ (by omega) ha,Zna (by omega),show 48+(r-48)=r by omega]
      rfl
    ·cases h
  ·by_cases h45:r=45
   ·subst h45
    rw [Zwv] at h
    cases l with
    |nil=>cases h
    |cons r2 l=>
     by_cases hd2:isDig r2=true
     ·have hr:=ZcR.1 hd2
      rw [ZqP _ _ _ hd2] at h
      by_cases h0:r2=48
      ·subst h0
       have e:=Zs0 l 0 true
       rw [show-((48-48:Nat):Int)=0 from rfl,e] at h
       split at h
       ·cases h
       ·cases h
      ·rw [ZpM l (r2-48) 0 true (by omega) (by omega)] at h
       split at h
       ·rename_i hc
        have ha:=List.all_eq_true.1 hc.1
        have ge:=ZkN l (r2-48)
        rw [show 0+1+l.length=l.length+1 by omega,ZvF (by omega)] at h
        cases h
        refine ⟨?_,by omega,by omega⟩
        rw [hs _ hl (fun x hx=>by
         rcases List.mem_cons.1 hx with rfl|hx
         ·omega
         ·rcases List.mem_cons.1 hx with rfl|hx
          ·exact ZoG hd2
          ·exact ZoG (ha x hx))]
        unfold showI
        rw [if_pos (by omega),Int.natAbs_neg,Int.natAbs_natCast,ZlH l _ (by omega) ha,Zna (by omega),show 48+(r2-48)=r2 by omega]
        rfl
       ·cases h
     ·rw [Zqp _ _ _ hd2 (.inr rfl)] at h
      cases h
   ·rw [Zqp _ _ _ hd (.inl h45)] at h
    cases h
end Go.Gv.F
namespace Go.Gv.F
def cutD (s:List UInt8):List UInt8×List UInt8×Bool:=
 if 0≤Lib.indexByte s 46 then (s.take (Lib.indexByte s 46).toNat,s.drop ((Lib.indexByte s 46).toNat+1),true) else (s,[],false)
def Zd5 (s:List UInt8):Option (Int×Int):=match (cutD s).2.2,readF (cutD s).1,readF (cutD s).2.1 with
 |true,some a,some b=>if a<0∨b<0 then none else some (a,b)
 |_,_,_=>none
end Go.Gv.F
namespace Go.Gv.F
end Go.Gv.F
namespace Go.Gv.F
theorem Zst {s:List UInt8} {a b:Int} (h:Zd5 s=some (a,b)):(0≤a∧a≤9223372036854775807)∧0≤b∧b≤9223372036854775807:=by
 unfold Zd5 at h
 cases hc:(cutD s).2.2 with
 |false=>rw [hc] at h;cases h
 |true=>
  rw [hc] at h
  cases h1:readF (cutD s).1 with
  |none=>rw [h1] at h;cases h
  |some x=>
   cases h2:readF (cutD s).2.1 with
   |none=>rw [h1,h2] at h;cases h
   |some y=>
    rw [h1,h2] at h
    simp only at h
    split at h
    ·cases h
    ·cases h
     have:=(Zlo h1).2
     have:=(Zlo h2).2
     omega
end Go.Gv.F
