/- The law of other superblocks, and of images that are cut off. -/
import Derived.Test.YtegglibipjjblaaGreatDoorGvBMk
import Derived.Test.YtegglibipjjblaaGreatDoorGvMWks
import Derived.Test.YtegglibipjjblaaGreatDoorGvMLawO
set_option linter.all false
namespace Go.Gv.F
set_option maxHeartbeats 4000000
open Go.Gv
theorem law_law26_MarkOthers {Bd:Zh} (h:HA Bd) (s:St) (args:ah) (vq:Jt s) (ht:wo s) (hr:Jx s [(true,YR),(true,YS),(false,.i .i64)] args): ∃n s',run Bd n 187 args s=some (.val [.bool true],s'):=by
 obtain⟨_,d,_,hx,jH,rfl,hd⟩:=hr;obtain⟨_,e,_,hy,Il,rfl,he⟩:=jH;obtain⟨_,f,_,hz,hr4,rfl,hf⟩:=Il;cases hr4;obtain⟨x,z1,p1,z2,p2,z3,p3,rfl,hU,gy,kD,cc,rg⟩:=afN hx;have hd:d= .agg (dD x z1 p1 z2 p2 z3 p3):=hd;subst hd;obtain⟨y,z4,pc,rfl,CN,kU⟩:=ZxV hy;have he:e= .agg [.int .i64 y.seq,.int .i64 y.blocks,.int .i64 y.cJ,.int .i64 y.g,.int .i64 y.bY,.int .i64 y.used,.int .i64 y.free,.int .i64 y.dir,.slice z4 pc y.aL.length]:=he;subst he;obtain⟨cut,rfl,gY,jt⟩:=hz;have hf:_=[f]:=hf;cases hf;have hF:=cc.afQ vq;refine Zxg (n:=100000) ?_;rw[Ze,h.abd];unfold NR ZH JG aY az JF cM Lb fW xS zy;rw[de];unfold dD;simp only[av,Zf 2 z1 p1 _ hU,Zf 1 z2 p2 _ gy,Zf 1 z3 p3 _ kD,aq];rw[de];simp only[av,Zf 1 z4 pc _ CN,aq];refine Ok.call (ZjF 99999 (by omega) s ht) ?_;rintro _ ⟨s1,rfl,aH⟩;refine⟨_,s1,rfl,?_⟩;have Iu:=ht.mono aH;simp only[au,aq];have WC:Ok (λo:Out ah×St=>∃s',o=(.val [DV.bool true],s')) (cY (run Bd 99999 169 []) (λds=>gP ds λx7 ds=>aJ ds (ay [DV.bool x7])) s1):=by
  refine Ok.call (ZjF 99999 (by omega) s1 Iu) ?_;rintro _ ⟨s3,rfl,ck⟩;refine⟨_,s3,rfl,?_⟩;simp only[au,aq,Zd];exact .mk ⟨s3,rfl⟩
 rw[Za,bp,af];refine Ok.call (Zpe 99999 x 2 1 1 p1 p2 p3 s1 (.inl rfl) (.inl rfl) (.inl rfl) (cc.pre aH) (by omega)) ?_;rintro _ ⟨b,rfl,hb⟩;refine⟨_,s1,rfl,?_⟩;simp only[au,aq];rw[Za];cases b with
 |false=>
  rw[bm,ae];simp only[au,aq];rw[Za,ae];simp only[au,aq];rw[ae];exact WC
 |true=>
 have sz:=(hb.1 rfl).sz;rw[bp,af];simp only[au,aq];by_cases HN:(y.aL.length:Int)>60
 .rw[aw HN,Za,ae]
  simp only[au,aq];rw[ae];exact WC
 rw[aD HN,Za,af];simp only[au,aq];by_cases MM:y.blocks>500
 .rw[aw MM,ae]
  exact WC
 rw[aD MM,af];refine Ok.call (ZjH 99999 x 2 1 1 p1 p2 p3 1 0 s1 (.inl rfl) (.inl rfl) (.inl rfl) (hF.kp aH.kp) sz) ?_;rintro _ ⟨s2,aV,hq⟩;rcases hq with⟨B,sp,ib,q,hm,hB,rfl,rq⟩|⟨_,rfl⟩
 rotate_left
 .refine⟨_,s2,rfl,?_⟩
  unfold Zs3;simp only[Zf 1 0 none _ (.inr rfl)];rw[de];simp only[av,Zf 1 0 none _ (.inr rfl),au,aq];rw[bm,ae];rw[Zd];exact .mk ⟨s2,rfl⟩
 refine⟨_,s2,rfl,?_⟩;obtain⟨rfl,hP⟩:=Zsz hB;obtain⟨g1,g2,_⟩:=Z2 hm.Hu;have TU:=hP.len;have LU:dE s2 (some (ib,0)) B:=⟨false,bZ B,rq.eF,by omega,by rw[dA,sc]⟩;have cL:(gp x 1).aL.length=rI x:=by
  show(ZP _ _).length=_;rw[sj]
 have XV:rI x=(x.blocks.toNat+383)/384:=rfl;have agy:=TU;have rF:=λr (v:dY) pc s3 (ck:aC s2 s3) (hr:r<=B.length) (hv:Sl s2 pc (ints v.aL)) (xr:v.aL.length<1000)=>by
  have:=Zom 99999 (some (ib,0)) (B.take r) v pc s3 ((Iu.mono aV).mono ck) ((LU.lK r).mono ck) (hv.mono ck) (by rw[cV];omega) xr (by omega);rw[cV,mW hr]at this;exact this
 obtain⟨r,hr,CG⟩: ∃r:Nat,run Bd 99999 179 [.int .i64 cut,.int .i64 (B.length+1:Nat)] s2=some (.val [.int .i64 r],s2)/\r<=B.length:=by
  have hm:=Int.emod_nonneg cut (show((B.length+1:Nat):Int)≠0 by omega);have gF:=Int.emod_lt_of_pos cut (show(0:Int)<(B.length+1:Nat) by omega);refine⟨(cut%((B.length+1:Nat):Int)).toNat,?_,by omega⟩;rw[ZkF 99998 cut (B.length+1) (by omega) (by omega) ⟨gY,jt⟩ s2,Int.toNat_of_nonneg hm]
 simp only[bd];unfold dO at rF⊢;rw[de];simp only[av,bd,au,aq];rw[bp,af,show ar ((B.length:Int)+1)=((B.length+1:Nat):Int) by rw[Zc];rfl,Zk hr];simp only[av,aq];rw[Zb (by rw[aW,bC,bC];omega),br];refine Ok.call (rF r y pc s2 (.refl _) CG ((kU.mono aH).mono aV) (by omega)) ?_;rintro _ ⟨s3,rfl,ck⟩;refine⟨_,s3,rfl,?_⟩;simp only[au,aq];rw[Za,ae];refine Ok.call (rF r (gp x 1) q s3 ck CG rq.own.sl (by omega)) ?_;rintro _ ⟨s4,rfl,fG⟩;refine⟨_,s4,rfl,?_⟩;simp only[au,aq,Zd];exact .mk ⟨s4,rfl⟩
end Go.Gv.F
