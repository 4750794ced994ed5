/- The law of states that were laid into an image. -/
import Derived.Test.YtegglibipjjblaaGreatDoorGvZMg
import Derived.Test.YtegglibipjjblaaGreatDoorGvZMe
namespace Go.Gv.F
open Go.Gv
theorem hU.vW {s:St} (hf:ED s): ∀ {ds:List DV} {xs:List cJ},hU s ds xs->qV s ds xs
 |_,[],h=>h
 |_,_::_,⟨z,p,t,hz,h1,h2,h3⟩=>⟨z,p,t,hz,h1,h2.fz hf,h3.vW hf⟩
theorem l8.XM {s:St} (hf:ED s) {x:cK} {p1 p2 p3:Option (Nat×Nat)} (h:l8 s x p1 p2 p3):vp s x p1 p2 p3:=
 let ⟨ds,h1,h2⟩:=h.hp
 ⟨⟨ds,h1.fz hf,h2.vW hf⟩,h.gn.fz hf,h.fr.fz hf⟩
theorem KK.keys {x:cK} (rg:KK x):OX x:=by
 have h: ∀e∈Zo x,jM e.slot/\jM e.gen/\jM e.key/\jM e.value:=fun e he=>by
  unfold Zo at he;obtain⟨l,hl,he⟩:=List.mem_flatten.1 he;obtain⟨g,hg,rfl⟩:=dE.1 hl;exact rg.aK g hg e he
 exact⟨fun e he=>(h e he).2.2.1,fun e he=>(h e he).2.2.2⟩
theorem law_law26_MarkStates {Bd:Za} (h:Zhh Bd) (s:St) (args:List DV) (qA:ED s) (ht:tK s) (hr:EF s [(true,UI),(false,.i .u8)] args): ∃n s',run Bd n 168 args s=some (.val [.bool true],s'):=by
 obtain⟨_,d,_,hx,mB,rfl,hd⟩:=hr;obtain⟨_,e,_,hy,Dv,rfl,he⟩:=mB;cases Dv;obtain⟨x,z1,p1,z2,p2,z3,p3,rfl,iu,gv,iZ,bE,rg⟩:=XG hx;have hd:d= .agg (cP x z1 p1 z2 p2 z3 p3):=hd;subst hd;obtain⟨ep,rfl,fL,jC⟩:=hy;have he:_=[e]:=he;cases he;have hF:=bE.XM qA;refine ZzT (n:=100000) ?_;rw[Zf,h.eq];unfold EY;rw[lZ];unfold cP;simp only[al,Zm 2 z1 p1 _ iu,Zm 1 z2 p2 _ gv,Zm 1 z3 p3 _ iZ,ae];refine Ok.call (Zkt h.q63 99999 (by omega) s ht) ?_;rintro _ ⟨s1,rfl,aJ⟩;refine⟨_,s1,rfl,?_⟩;have DC:=ht.mono aJ;have Ba:=bE.pre aJ;simp only[ai,ae];have XX: ∀s2,aw s1 s2->Ok (fun o:Out (List DV)×St=>∃s',o=(.val [DV.bool true],s')) (M.call (run Bd 99999 169 []) (fun ds=>J.b ds fun x7 ds=>D.nil ds (M.ret [DV.bool x7])) s2):=by
  intro s2 bj;refine Ok.call (Zkt h.q63 99999 (by omega) s2 (DC.mono bj)) ?_;rintro _ ⟨s3,rfl,cG⟩;refine⟨_,s3,rfl,?_⟩;simp only[ai,ae,Zc];exact .mk ⟨s3,rfl⟩
 rw[Zb,bg,cond_false];refine Ok.call (Zqj h.q62 99999 x 2 1 1 p1 p2 p3 s1 (.inl rfl) (.inl rfl) (.inl rfl) Ba (by omega)) ?_;rintro _ ⟨b,rfl,hb⟩;refine⟨_,s1,rfl,?_⟩;simp only[ai,ae];cases b with
 |false=>
  rw[bu,cond_true];exact XX s1 (.refl _)
 |true=>
 have sm:=hb.1 rfl;have sz:=sm.sz;rw[bg,cond_false];generalize af (1+af ep)=bG;refine Ok.call (Zj0 h.RU 99999 x 2 1 1 p1 p2 p3 bG 0 s1 (.inl rfl) (.inl rfl) (.inl rfl) (hF.kp aJ.kp) sz (by omega) (by omega)) ?_;rintro _ ⟨s2,bj,hq⟩;rcases hq with⟨B,sp,ib,q,hm,hB,rfl,mn⟩|⟨_,rfl⟩
 rotate_left
 ·refine⟨_,s2,rfl,?_⟩
  unfold Zv8;simp only[Zm 1 0 none _ (.inr rfl)];rw[lZ];simp only[al,Zm 1 0 none _ (.inr rfl),ai,ae];rw[bu,cond_true,Zc];exact .mk ⟨s2,rfl⟩
 refine⟨_,s2,rfl,?_⟩;obtain⟨v,oA,qG,hv3⟩:=Zyb hm rg.keys hB;obtain⟨rfl,hP⟩:=Zns hB;obtain⟨g1,g2,_⟩:=sr hm.xS;have wE:=hP.room;have hBl:=hP.len;have CZ:dF s2 (some (ib,0)) B:=⟨false,bQ B,mn.cO,by omega,by rw[dw,oQ]⟩;have dz:(cZ x bG).aG.length<1000:=by
  show(Zs _ _).length<1000;rw[ZU];have:(cV x).2.next+jb x<=3072:=by omega
  unfold jb at this⊢;omega
 have fZ:=DC.mono bj;have Bb:=Ba.pre bj;have Q9:=LO h.D3 99999 (some (ib,0)) B (cZ x bG) q s2 CZ mn.own.sl (by omega) dz (by omega);have Tf:=fun s3 (cG:aw s2 s3) pr rm (Dw:ZvP s3 rm pr)=>Zjw h.RQ 99999 (some (ib,0)) B (cZ x bG) q rm pr s3 (fZ.mono cG) (CZ.mono cG) (mn.own.sl.mono cG) Dw (by omega) dz (by omega)
 have kV:(cZ x bG).aG[0]? =some (((cV x).2.next:Nat):Int):=by
  show(Zs _ _)[0]? =_;rw[MW _ _ 0 (by unfold jb;omega),dC]
 have VD:0<(cZ x bG).aG.length:=(cw.1 kV).1;simp only[br];rw[lZ];unfold dK at Q9 Tf⊢;simp only[al,br,ai,ae];rw[bg,cond_false];refine Ok.call Q9 ?_;rw[oA];rintro o ⟨s3,u9,q2,va,q3,z4',q4,i,j,rfl,cG,e2,e3,e4,Q4,cu,uB,AS⟩;refine⟨_,s3,rfl,?_⟩;rw[qG]at Q4⊢;have cL:=Bb.pre cG;have Q6:=fZ.mono cG;rw[lZ];unfold cP;simp only[al,Zm 2 u9 q2 _ e2,Zm 1 va q3 _ e3,Zm 1 z4' q4 _ e4,fa,ae];rw[Zb,show(!((0:Int)==0))=false from rfl,cond_false];simp only[ai,ae];rw[Zb,show(Option.isNone (some (i,0)))=false from rfl,cond_false];refine Ok.call (Zsp h.Xl 99999 x x 2 1 1 q2 q3 q4 2 1 1 p1 p2 p3 s3 (.inl rfl) (.inl rfl) (.inl rfl) (.inl rfl) (.inl rfl) (.inl rfl) Q4 cL sz (by omega)) ?_;rintro _ ⟨c,rfl,hc⟩;refine⟨_,s3,rfl,?_⟩;rw[hc.2 rfl];simp only[ai,ae];rw[Zb,bg,cond_false];refine Ok.call (ZlO h.RH 99999 x x 2 1 1 q2 q3 q4 2 1 1 p1 p2 p3 s3 (.inl rfl) (.inl rfl) (.inl rfl) (.inl rfl) (.inl rfl) (.inl rfl) Q4 cL sz (by omega)) ?_;rintro _ ⟨c,rfl,hc⟩;refine⟨_,s3,rfl,?_⟩;rw[hc.2 rfl];simp only[ai,ae];rw[Zb,bg,cond_false];have nv:xy B (cZ x bG) (some ((cZ x bG).blocks.toNat,v.W))=true:=by
  unfold xy;rw[oA];simp only;rw[ZvA hm hP hv3];simp
 refine Ok.call (Tf s3 cG (some (i,0)) (some ((cZ x bG).blocks.toNat,v.W)) ⟨false,i,j,rfl,cu⟩) ?_;rintro _ ⟨s4,rfl,gG⟩;refine⟨_,s4,rfl,?_⟩;rw[nv];simp only[ai,ae];rw[bg,cond_false];refine Ok.call (Zma h.D4 (UL h.D4.q9) 99999 s4 (Q6.mono gG) (cu.pre gG) (by omega)) ?_;rintro _ ⟨p,s5,rfl,jl,QY,_⟩;refine⟨_,s5,rfl,?_⟩;simp only[br,ae];rw[Zu3 hv3.iff]at QY⊢;rw[ZU,Zb];have JH:=(mn.own.sl.mono (cG.trans (gG.trans jl)));refine Zl _ (fun k y t=>∃a:Nat,y=[.int .i64 (a:Int)]/\a<=(cV x).2.next/\(cV x).2.next-a<=k/\t=s5) ?_ (cV x).2.next 99999 _ _ ⟨0,rfl,bH _,by omega,rfl⟩ (by omega);rintro k y t ⟨a,rfl,ha,hk,rfl⟩ rec aD;simp only[al,ae];by_cases aj:a<(cV x).2.next
 ·obtain⟨i1,o1,rfl⟩:=QY.cm (by simp[ints,Zs];omega)
  have dM:(ints (Zs 0 (cV x).2.next))[a]? =some (.int .i64 (a:Int)):=by
   rw[ints,gB,MW _ _ _ aj,dy];rfl
  rw[ah (show(a:Int)<(((cV x).2.next:Nat):Int) by omega),cond_true,aW,Ze (Zk aj)];simp only[aY];rw[QY.dj dM];simp only[aS];rw[fH,bg,cond_false,Zd (by omega) (by omega)];exact aD ((cV x).2.next-(a+1)) _ _ (by omega) ⟨a+1,rfl,by omega,aA _,rfl⟩
 ·rw[ao (show ¬(a:Int)<(((cV x).2.next:Nat):Int) by omega),cond_false]
  obtain⟨i1,o1,rfl⟩:=JH.cm (by simp[ints];omega);have dM:(ints (cZ x bG).aG)[0]? =some (.int .i64 (((cV x).2.next:Nat):Int)):=by
   rw[ints,gB,kV];rfl
  have hg:=JH.dj (β:=List DV) dM;rw[nV]at hg;rw[aW,Ze (show au 0 (cZ x bG).aG.length=true from Zk (i:=0) VD),hg];simp only[aS];rw[Zb,fH,cond_true,fH];simp only[ai,ae,Zc];exact .mk ⟨_,rfl⟩
end Go.Gv.F
