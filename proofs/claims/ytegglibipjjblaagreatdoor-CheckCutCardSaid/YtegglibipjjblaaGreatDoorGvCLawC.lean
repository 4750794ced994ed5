/- The law of images that are cut off. -/
import Derived.Test.YtegglibipjjblaaGreatDoorGvCAwake
import Derived.Test.YtegglibipjjblaaGreatDoorGvZMe
namespace Go.Gv.F
open Go.Gv
variable {β:Type}
theorem Zz1:SzS exM:=⟨⟨by decide,by decide,by decide⟩,by decide,by decide,by decide⟩
theorem Zz0 (st:St):StF st exM none none none:=⟨⟨[],Fz.nil _,rfl⟩,Fz.nil _,Fz.nil _⟩
theorem Zxi {Bd:Za} (h:Zc6 Bd) (n:Nat) (st:St):run Bd (n+1) 323 [.slice 0 none 0] st=run Bd (n+1) 323 [.slice 1 none 0] st:=by
 rw[Zf,Zf,h.eq];unfold Zc8;rw[Zm 1 0 none 0 (.inr rfl),J_l]
theorem Zka {Bd:Za} (h:Zhb Bd) (n:Nat) (hn:70000≤n) (st:St) (ht:Tabs st):Ok (fun o=>∃s',o=(.val [.bool true],s')∧Pre st s') (run Bd n 322 [] st):=by
 obtain⟨n,rfl⟩: ∃m,n=m+2:=⟨n-2,by omega⟩;obtain⟨B,s,x,v,e,hB,hW,hF,hh0,hBl⟩:=ZuR;rw[Zf,h.eq];unfold Zes;simp only[D_nil];have hst:([.int .i64 16,.int .i64 2,.int .i64 1,.slice 0 none 0,.slice 0 none 0,.slice 0 none 0]:List DV)=stC exM 0 none 0 none 0 none:=rfl;rw[hst];refine Ok.call (Zj2 h.q81 (n+1) exM 0 0 0 none none none 1 0 st (.inr rfl) (.inr rfl) (.inr rfl) (Zz0 st) Zz1 (by omega) (by omega)) ?_;rintro _ ⟨s2,hp2,hq⟩;rcases hq with⟨B',s',ib,q,_,hb,rfl,hbt⟩|⟨hno,_⟩
 rotate_left
 ·rw[hno Zy9]at hB;cases hB
 rw[hB]at hb;cases hb;refine⟨_,s2,rfl,?_⟩;simp only[J_l];rw[Z2];unfold supC;simp only[J_i,J_l,J_b,D_nil];have hby:Byt s2 (some (ib,0)) B:=⟨false,octs B,hbt.oct,by omega,by rw[List.drop_zero,List.take_length]⟩;refine Ok.call (Zf3 h.q61 (n+1) (some (ib,0)) B s2 (ht.mono hp2) hby (by omega) (fun x' v' e' hw=>?_) (by omega)) ?_
 ·rw[hW]at hw
  cases hw;omega
 rintro o ⟨s3,hp3,ho⟩;rw[hW]at ho;simp only at ho;subst ho;refine⟨_,s3,rfl,?_⟩;rw[Z2,ZuD,hF];show Ok _ (J.i .i64 [.int .i64 0,.int .i64 0,.int .i64 0,.int .i64 0,.int .i64 3] _ s3);simp only[J_i,D_nil];have hnil:Byt s3 none []:=rfl;have hck:=Zf3 h.q61 (n+1) none [] s3 (ht.mono (hp2.trans hp3)) hnil (by decide) (fun x' v' e' hw=>by rw[ZqR]at hw;cases hw) (by omega);rw[ZqR]at hck;change Ok _ (run Bd (n+1) 323 [DV.slice 1 none 0] s3)at hck;rw[←Zxi h.q61]at hck;refine Ok.call hck ?_;rintro o ⟨s4,hp4,ho⟩;simp only at ho;subst ho;refine⟨_,s4,rfl,?_⟩;rw[Z2];unfold Zmw;simp only[J_i,D_nil,Zc,cond_true];rw[show((0:Int)==0)=true from rfl];simp only[J_b,D_nil,cond_true];rw[show((3:Int)==3)=true from rfl,show((30:Int)==30)=true from rfl];simp only[Bool.and_true,cond_true,Zb];exact .mk ⟨s4,rfl,(hp2.trans hp3).trans hp4⟩
theorem Heaps.hF {s:St} (hf:Frz s): ∀ {ds:List DV} {xs:List HeapV},Heaps s ds xs→HeapsF s ds xs
 |_,[],h=>h
 |_,_::_,⟨z,p,t,hz,h1,h2,h3⟩=>⟨z,p,t,hz,h1,h2.fz hf,h3.hF hf⟩
theorem StR.stF {s:St} (hf:Frz s) {x:StV} {p1 p2 p3:Option (Nat×Nat)} (h:StR s x p1 p2 p3):StF s x p1 p2 p3:=
 let ⟨ds,h1,h2⟩:=h.hp
 ⟨⟨ds,h1.fz hf,h2.hF hf⟩,h.gn.fz hf,h.fr.fz hf⟩
theorem law_law27_CheckCut {Bd:Za} (h:Ziw Bd) (s:St) (args:List DV) (hfz:Frz s) (ht:Tabs s) (hr:RdA s [(true,stTy),(false,.i .i64)] args): ∃n s',run Bd n 321 args s=some (.val [.bool true],s'):=by
 obtain⟨_,d,_,hx,hr2,rfl,hd⟩:=hr;obtain⟨_,e,_,hy,hr3,rfl,he⟩:=hr2;cases hr3;obtain⟨x,z1,p1,z2,p2,z3,p3,rfl,hz1,hz2,hz3,hst,rg⟩:=rd_st hx;have hd:d= .agg (stC x z1 p1 z2 p2 z3 p3):=hd;subst hd;obtain⟨cut,rfl,hc1,hc2⟩:=hy;have he:_=[e]:=he;cases he;have hF:=hst.stF hfz;refine ZzG (n:=100000) ?_;rw[Zf,h.eq];unfold ZcY;rw[Z2];unfold stC;simp only[J_i,Zm 2 z1 p1 _ hz1,Zm 1 z2 p2 _ hz2,Zm 1 z3 p3 _ hz3,D_nil];refine Ok.call (Zka h.q66 99999 (by omega) s ht) ?_;rintro _ ⟨s1,rfl,hp1⟩;refine⟨_,s1,rfl,?_⟩;have ht1:=ht.mono hp1;have hst1:=hst.pre hp1;simp only[J_b,D_nil];have wake: ∀s2,Pre s1 s2→Ok (fun o:Out (List DV)×St=>∃s',o=(.val [DV.bool true],s')) (M.call (run Bd 99999 322 []) (fun ds=>J.b ds fun x7 ds=>D.nil ds (M.ret [DV.bool x7])) s2):=by
  intro s2 hp2;refine Ok.call (Zka h.q66 99999 (by omega) s2 (ht1.mono hp2)) ?_;rintro _ ⟨s3,rfl,hp3⟩;refine⟨_,s3,rfl,?_⟩;simp only[J_b,D_nil,Zb];exact .mk ⟨s3,rfl⟩
 rw[Zc,Bool.not_true,cond_false];refine Ok.call (Zpr h.q65 99999 x 2 1 1 p1 p2 p3 s1 (.inl rfl) (.inl rfl) (.inl rfl) hst1 (by omega)) ?_;rintro _ ⟨b,rfl,hb⟩;refine⟨_,s1,rfl,?_⟩;simp only[J_b,D_nil];cases b with
 |false=>
  rw[Bool.not_false,cond_true];exact wake s1 (.refl _)
 |true=>
 have sm:=hb.1 rfl;have sz:=sm.sz;rw[Bool.not_true,cond_false];refine Ok.call (Zj2 h.q81 99999 x 2 1 1 p1 p2 p3 1 0 s1 (.inl rfl) (.inl rfl) (.inl rfl) (hF.kp hp1.kp) sz (by omega) (by omega)) ?_;rintro _ ⟨s2,hp2,hq⟩;rcases hq with⟨B,sp,ib,q,_,hB,rfl,hbt⟩|⟨_,rfl⟩
 rotate_left
 ·refine⟨_,s2,rfl,?_⟩
  unfold ZvD;simp only[Zm 1 0 none _ (.inr rfl)];rw[Z2];simp only[J_i,Zm 1 0 none _ (.inr rfl),J_b,D_nil];rw[Bool.not_false,cond_true,Zb];exact .mk ⟨s2,rfl⟩
 refine⟨_,s2,rfl,?_⟩;simp only[J_l];rw[Z2];unfold supC;simp only[J_i,J_l,J_b,D_nil];rw[Bool.not_true,cond_false];obtain⟨hBl,hb1,hb2,_,_⟩:=ZmY hB;have hby:Byt s2 (some (ib,0)) B:=⟨false,octs B,hbt.oct,by omega,by rw[List.drop_zero,List.take_length]⟩;obtain⟨r,hr,hrl⟩: ∃r:Nat,run Bd 99999 179 [.int .i64 cut,.int .i64 (B.length:Nat)] s2=some (.val [.int .i64 r],s2)∧r<B.length:=by
  have hm:=Int.emod_nonneg cut (show((B.length:Nat):Int)≠0 by omega);have hm2:=Int.emod_lt_of_pos cut (show(0:Int)<(B.length:Nat) by omega);refine⟨(cut%((B.length:Nat):Int)).toNat,?_,by omega⟩;rw[Zk7 h.q96 99998 cut B.length (by omega) (by omega) ⟨hc1,hc2⟩ s2,Int.toNat_of_nonneg hm]
 rw[Zi hr];simp only[J_i,D_nil];rw[Ze (by rw[Bool.and_eq_true,decide_eq_true_iff,decide_eq_true_iff];omega),Int.toNat_natCast];have htl:(B.take r).length=r:=by rw[List.length_take];omega
 have hcw:=Zw8 hB hrl;have hck:=Zf3 h.q61 99999 (some (ib,0)) (B.take r) s2 (ht1.mono hp2) (hby.takes r) (by omega) (fun x' v' e' hw=>by rcases hcw with e|e<;>rw[e]at hw<;>cases hw) (by omega);rw[htl]at hck;refine Ok.call hck ?_;rintro o ⟨s3,hp3,ho⟩;rcases hcw with e|e
 ·rw[e]at ho
  simp only at ho;subst ho;refine⟨_,s3,rfl,?_⟩;rw[Z2];unfold Zmw;simp only[J_i,D_nil,Zc];rw[show((30:Int)==31)=false from rfl,show((30:Int)==30)=true from rfl,cond_false];simp only[J_b,D_nil,Zb];exact .mk ⟨s3,rfl⟩
 ·rw[e]at ho
  simp only at ho;subst ho;refine⟨_,s3,rfl,?_⟩;rw[Z2];unfold Zmw;simp only[J_i,D_nil,Zc];rw[show((31:Int)==31)=true from rfl,cond_true];simp only[J_b,D_nil,Zb];exact .mk ⟨s3,rfl⟩
end Go.Gv.F
