/- The law of states that are alike. -/
import Derived.Test.YtegglibipjjblaaGreatDoorGvZMe
namespace Go.Gv.F
open Go.Gv
variable {β:Type}
theorem Zqx {s:St} {a:Option (Nat×Nat)} {ws:List Int} (h:Sl s a (ints ws)) (hl:ws.length<1000000): ∃p s',Pre s s'∧Sl s' p (ints ws)∧∀K:Option (Nat×Nat)→M β,(M.new [] fun i=>M.rd a (ws.length*1) fun cs=>M.app 1 (some (i,0)) 0 cs ws.length 8796093022208 K) s=K p s':=by
 have hil:(ints ws).length=ws.length:=by simp [ints]
 have h1:=h.mono (Pre.new s (some (⟨false,[]⟩:Blk)))
 have hrd: ∀K:List DV→M β,M.rd a (ws.length*1) K (s++[some ⟨false,[]⟩])=K (ints ws) (s++[some ⟨false,[]⟩]):=fun K=>by
  have:=rd_eq h1 K
  rwa [hil,←Nat.mul_one ws.length] at this
 by_cases h0:ws.length=0
 ·have:ws=[]:=List.length_eq_zero_iff.1 h0
  subst this
  refine ⟨some (s.length,0),s++[some ⟨false,[]⟩],Pre.new _ _,⟨false,[],by simp,by simp [ints],by simp [ints]⟩,fun K=>?_⟩
  rw [Zw,hrd]
  rfl
 ·have hown:Own s (s++[some (⟨false,[]⟩:Blk)]) (some (s.length,0)) []:=⟨Pre.new _ _,.inr ⟨s.length,rfl,Nat.le_refl _,by simp⟩⟩
  obtain ⟨p,s',ho,he⟩:=hown.app (β:=β) (sz:=1) (n:=0) (m:=ws.length) (lim:=8796093022208) (ds:=ints ws) (by omega) rfl (by omega) (by omega)
  rw [List.nil_append] at ho
  exact ⟨p,s',ho.1,ho.sl,fun K=>by rw [Zw,hrd,he]⟩
theorem law_law26_MarkSames {Bd:Za} (h:Zhj Bd) (s:St) (args:List DV) (_:Frz s) (ht:Tabs s) (hr:RdA s [(true,stTy),(true,stTy)] args): ∃n s',run Bd n 181 args s=some (.val [.bool true],s'):=by
 obtain ⟨_,d,_,hx,hr2,rfl,hd⟩:=hr
 obtain ⟨_,e,_,hy,hr3,rfl,he⟩:=hr2
 cases hr3
 obtain ⟨x,z1,p1,z2,p2,z3,p3,rfl,hz1,hz2,hz3,hst,rg⟩:=rd_st hx
 obtain ⟨y,w1,q1,w2,q2,w3,q3,rfl,hw1,hw2,hw3,hsu,rgy⟩:=rd_st hy
 have hd:d= .agg (stC x z1 p1 z2 p2 z3 p3):=hd
 have he:e= .agg (stC y w1 q1 w2 q2 w3 q3):=he
 subst hd he
 refine Zyl (n:=100000) ?_
 rw [Zf,h.eq]
 unfold ZcC
 rw [J_a']
 unfold stC
 simp only [J_i,Zm 2 z1 p1 _ hz1,Zm 1 z2 p2 _ hz2,Zm 1 z3 p3 _ hz3,D_nil]
 rw [J_a']
 simp only [J_i,Zm 2 w1 q1 _ hw1,Zm 1 w2 q2 _ hw2,Zm 1 w3 q3 _ hw3,D_nil]
 refine Ok.call (ZjA h.q63 99999 (by omega) s ht) ?_
 rintro _ ⟨s1,rfl,hp1⟩
 refine ⟨_,s1,rfl,?_⟩
 have ht1:=ht.mono hp1
 have hst1:=hst.pre hp1
 have hsu1:=hsu.pre hp1
 simp only [J_b,D_nil]
 have wake: ∀s2,Pre s1 s2→Ok (fun o:Out (List DV)×St=>∃s',o=(.val [DV.bool true],s')) (M.call (run Bd 99999 169 []) (fun ds=>J.b ds fun x7 ds=>D.nil ds (M.ret [DV.bool x7])) s2):=by
  intro s2 hp2
  refine Ok.call (ZjA h.q63 99999 (by omega) s2 (ht1.mono hp2)) ?_
  rintro _ ⟨s3,rfl,hp3⟩
  refine ⟨_,s3,rfl,?_⟩
  simp only [J_b,D_nil,Zc]
  exact .mk ⟨s3,rfl⟩
 rw [Zb,Bool.not_true,cond_false]
 refine Ok.call (ZjZ h.q62 99999 x 2 1 1 p1 p2 p3 s1 (.inl rfl) (.inl rfl) (.inl rfl) hst1 (by omega)) ?_
 rintro _ ⟨b,rfl,hb⟩
 refine ⟨_,s1,rfl,?_⟩
 simp only [J_b,D_nil]
 rw [Zb]
 cases b with
 |false=>
  rw [Bool.not_false,cond_true]
  simp only [J_b,D_nil]
  rw [cond_true]
  exact wake s1 (.refl _)
 |true=>
 have sm:=hb.1 rfl
 have sz:=sm.sz
 rw [Bool.not_true,cond_false]
 refine Ok.call (ZjZ h.q62 99999 y 2 1 1 q1 q2 q3 s1 (.inl rfl) (.inl rfl) (.inl rfl) hsu1 (by omega)) ?_
 rintro _ ⟨b,rfl,hb⟩
 refine ⟨_,s1,rfl,?_⟩
 simp only [J_b,D_nil]
 cases b with
 |false=>
  rw [Bool.not_false,cond_true]
  exact wake s1 (.refl _)
 |true=>
 have smy:=hb.1 rfl
 have szy:=smy.sz
 rw [Bool.not_true,cond_false]
 obtain ⟨r1,s2,hp2,hs2,he2⟩:=Zqx (β:=List DV) hst1.gn (by have:=sz.g;omega)
 refine Eq.mpr (congrArg (Ok _) (he2 _)) ?_
 have hst2:=hst1.pre hp2
 obtain ⟨r2,s3,hp3,hs3,he3⟩:=Zqx (β:=List DV) hst2.fr (by have:=sz.f;omega)
 refine Eq.mpr (congrArg (Ok _) (he3 _)) ?_
 have hst3:=hst2.pre hp3
 have hsu3:=(hsu1.pre hp2).pre hp3
 refine Ok.callN (ZhU h.q107 99999 x y 2 1 1 p1 p2 p3 2 1 1 q1 q2 q3 s3 (.inl rfl) (.inl rfl) (.inl rfl) (.inl rfl) (.inl rfl) (.inl rfl) hst3 hsu3 sz (by omega)) ?_
 rintro _ ⟨b,rfl,hb1⟩
 refine ⟨_,s3,rfl,?_⟩
 simp only [J_b,D_nil]
 refine Ok.call (Zr6 h.q101 99999 x y 2 1 1 p1 p2 p3 2 1 1 q1 q2 q3 s3 (.inl rfl) (.inl rfl) (.inl rfl) (.inl rfl) (.inl rfl) (.inl rfl) hst3 hsu3 sz (by omega)) ?_
 rintro _ ⟨c,rfl,hc1⟩
 refine ⟨_,s3,rfl,?_⟩
 have hbc:b=c:=by rw [Bool.eq_iff_iff,hb1,hc1]
 subst hbc
 simp only [J_b,D_nil]
 rw [show (b==b)=true from beq_self_eq_true _,Zb,cond_true,Nat.zero_add,Nat.zero_add]
 refine Ok.call (ZhU h.q107 99999 x x 2 1 1 p1 p2 p3 2 1 1 p1 r1 r2 s3 (.inl rfl) (.inl rfl) (.inl rfl) (.inl rfl) (.inl rfl) (.inl rfl) hst3 ⟨hst3.hp,hs2.mono hp3,hs3⟩ sz (by omega)) ?_
 rintro _ ⟨c,rfl,hc2⟩
 refine ⟨_,s3,rfl,?_⟩
 simp only [J_b,D_nil,Zc]
 exact .mk ⟨s3,by rw [hc2.2 rfl]⟩
end Go.Gv.F
