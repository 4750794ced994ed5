/- One octet of a block is another one: its sum tells. -/
import Derived.Test.YtegglibipjjblaaGreatDoorGvKLoc
set_option linter.all false
namespace Go.Gv.F
open Go.Gv
set_option maxHeartbeats 4000000
theorem Zxz {x y:Nat} (hx:x<4294967296) (hy:y<4294967296) (h:nK x=nK y):x=y:=by
 have hb: ∀z:Nat,z<4294967296->(z/2).testBit 31=false:=λz hz=>FK AC
 have hp:(2197175160:Nat).testBit 31=true:=EQ
 have ako: ∀a b:Nat,a^^^2197175160=b^^^2197175160->a=b:=λa b e=>by
  have:=congrArg (· ^^^2197175160) e;simpa [H7]using this
 have cV: ∀a b:Nat,a<4294967296->b<4294967296->(a/2)^^^2197175160≠b/2:=λa b ha dq e=>by
  have:=congrArg (λn:Nat=>n.testBit 31) e;simp only[Nat.testBit_xor,hb a ha,hb b dq,hp]at this;cases this
 unfold nK at h;split at h<;>split at h
 .have:=ako _ _ h;omega
 .exact absurd h (cV _ _ hx hy)
 .exact absurd h.symm (cV _ _ hy hx)
 .omega
theorem Um: ∀(n:Nat) {x y:Nat},x<4294967296->y<4294967296->ZO n x=ZO n y->x=y
 |0,_,_,_,_,h=>h
 |n+1,_,_,hx,hy,h=>Zxz hx hy (Um n (NQ hx) (NQ hy) h)
theorem Oj {x:Nat} (h:x<4294967296) (c:UInt8):x^^^c.toNat<4294967296:=
 FL (n:=32) h (by have:=c.toNat_lt;omega)
theorem Zuc: ∀(l:aj) {x y:Nat},x<4294967296->y<4294967296->l.foldl oV x=l.foldl oV y->x=y
 |[],_,_,_,_,h=>h
 |c::l,x,y,hx,hy,h=>by
  have h1:=Zuc l (Jk hx c) (Jk hy c) h;have h2:=Um 8 (Oj hx c) (Oj hy c) h1;have:=congrArg (· ^^^c.toNat) h2;simpa [H7]using this
variable {j o:Nat} {c y:UInt8} {l:aj}
theorem Zz0 (h:tO (l.set o c)=tO l):l.set o c=l:=by
 rcases jw o l.length with ho|ho
 .have e1:l=l.take o++l[o]::l.drop (o+1):=Do
  have e2:l.set o c=l.take o++c::l.drop (o+1):=List.set_eq_take_append_cons_drop.trans (bx ho);have hx:=Cd (l.take o) (x:=4294967295) AC;unfold tO at h;have a:=Cd l (x:=4294967295) AC;have b:=Cd (l.set o c) (x:=4294967295) AC;have h3:(l.set o c).foldl oV 4294967295=l.foldl oV 4294967295:=AC
  rw[e2]at h3
  conv at h3=>rhs;rw[e1]
  rw[wZ,wZ,zZ,zZ]at h3;have h4:=Zuc _ (Jk hx _) (Jk hx _) h3;have h5:=Um 8 (Oj hx _) (Oj hx _) h4;have h6:=congrArg (((l.take o).foldl oV 4294967295)^^^ ·) h5;simp only[<-H7,Nat.xor_self,Nat.zero_xor]at h6;have h7:c=l[o]:=DC.1 h6;rw[h7,List.set_getElem_self]
 .exact List.set_eq_of_length_le ho
theorem Zyn (h:nU l=true) (h':nU (l.set o c)=true):l.set o c=l:=by
 unfold nU at h h';simp only[aS,yi]at h h';have⟨hl,_,_,h1⟩:=h;have⟨_,_,_,h2⟩:=h';rcases jw o 4 with ho|ho
 .have e:(l.set o c).drop 4=l.drop 4:=by rw[List.drop_set,bx ho]
  rw[e,h1]at h2;have:=ZAl Do h2;rw[<-mD 4 (l.set o c),<-this,e,mD]
 .have e:(l.set o c).take 4=l.take 4:=by rw[List.take_set,List.set_eq_of_length_le (by rw[cB];omega)]
  have e2:(l.set o c).drop 4=(l.drop 4).set (o-4) c:=by rw[List.drop_set,aY AC]
  rw[e,<-h1,e2]at h2;rw[<-mD 4 (l.set o c),e,e2,Zz0 h2,mD]
theorem ZoN (h:ZA l≠ .none):nU l=true:=by
 cases hr:nU l
 .have ho:eK l=none:=by unfold eK;rw[hr];rfl
  refine absurd ?_ h;unfold ZA iy ZI ZY ZH kl;rw[ho]
 .rfl
theorem Zud {B:aj} {b:Nat} (ho:o<64):Zv (B.set (64*j+o) y) b=if b=j then(Zv B b).set o y else Zv B b:=by
 unfold Zv;refine th λi=>?_
 split<;>simp only[uE,w4,List.getElem?_set,cB,dY]<;>grind
