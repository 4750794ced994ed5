/- Numbers and blocks, read (the document's). -/
import Derived.Test.YtjcghijjmhhldaaGreatDoorGvZMg
set_option linter.all false
namespace Go.Gv.F
open Go.Gv
variable {β:Type}
variable {Bd:Ze} [h:HA Bd]
theorem Dx (n:Nat) (s:aj) (st:St) (hl:s.length<=8:=by omega) (hn:s.length+3<=n:=by omega):Ok (λo=>o=(.val [.w (da s:Int)],st)) (run Bd n 310 [.str s] st):=by
 obtain _|n:=n;omega;rw[Zb,h.Tq];unfold I9 uG sQ cV ZD
 try dsimp only
 rw[fL,ao];refine Ok.join λav Vb=>?_
 have key: ∀i,i<=s.length->da (s.drop i)<256^(s.length-i):=λi hi=>by
  have:=Bj (s.drop i);rwa [ft]at this
 refine Zn _ (λq y t=>∃i:Nat,y=[.w ((da (s.drop i):Nat):Int),.i ((i:Int)-1)]/\i<=s.length/\i<=q/\t=st) ?_ s.length n _ _ ⟨s.length,by rw[zY,Zc];rfl,aW _,aW _,rfl⟩ AC;rintro q y t ⟨i,rfl,hi,hq,rfl⟩ rec aQ;simp only[ar,ao];by_cases h0:i=0
 .subst h0
  rw[aK AC,ae,Vb];simp only[ar,ao,Zh];exact .mk rfl
 .rw[aI (AC:(i:Int)-1>=0),aa,Zi,aI (AC:(i:Int)-1<8),aa]
  obtain⟨j,rfl⟩: ∃j,i=j+1:=⟨i-1,AC⟩;have hj:j<s.length:=AC
  rw[show((j+1:Nat):Int)-1=(j:Int) by omega,Zg (Zo hj)];simp only[ar,ao];have hd:s.drop j=s[j]::s.drop (j+1):=il hj;have aw:=key (j+1) AC;have hp:256^(s.length-(j+1))<=256^7:=xC EQ AC;have h7:(256:Nat)^7=72057594037927936:=EQ
  have hb:yy s (j:Int)=(s[j].toNat:Int):=by
   unfold yy;rw[bw,gF,dt hj];rfl
  have hsj:=s[j].toNat_lt;rw[hb,IntWalk.u64_in (((da (s.drop (j+1)):Nat):Int)*256) AC,IntWalk.u64_in (s[j].toNat:Int) AC,IntWalk.u64_in _ AC,Zc];refine aQ j _ _ AC ⟨j,?_,AC,aW _,rfl⟩;rw[hd];show _=[DV.int .u64 ((s[j].toNat+256*da (s.drop (j+1)):Nat):Int),_];rw[show((da (s.drop (j+1)):Nat):Int)*256+(s[j].toNat:Int)=((s[j].toNat+256*da (s.drop (j+1)):Nat):Int) by omega]
end Go.Gv.F
