/- The law of spoilt images. -/
import Derived.Test.YtegglibipjjblaaGreatDoorGvBMk
import Derived.Test.YtegglibipjjblaaGreatDoorGvMWks
namespace Go.Gv.F
set_option maxHeartbeats 4000000
open Go.Gv
abbrev LF:Ty:= .pr (.i .i64) (.pr (.i .i64) (.pr (.i .u8) (.pr .b .un)))
variable {s:St}
theorem Zwu {cs:ah} (h:Rd s LF cs): ∃e:qw,cs=Ax e/\me e.line/\me e.dH:=by
 obtain⟨_,_,rfl,⟨a,rfl,a1,a2⟩,⟨_,_,rfl,⟨b,rfl,b1,b2⟩,⟨_,_,rfl,⟨c,rfl,c1,c2⟩,⟨_,_,rfl,⟨d,rfl⟩,hu⟩⟩⟩⟩:=h;cases hu;have c1:0<=c:=c1;have c2:c<=255:=c2;refine⟨⟨a,b,UInt8.ofNat c.toNat,d⟩,?_,wP ⟨a1,a2⟩,wP ⟨b1,b2⟩⟩;unfold Ax;simp only;rw[UInt8.toNat_ofNat_of_lt' (show c.toNat<256 by omega),show((c.toNat:Nat):Int)=c by omega];rfl
theorem ZnS {s:St} : ∀(n:Nat) (cs:ah),cs.length=n*4->(∀j,j<n->Rd s LF ((cs.drop (j*4)).take 4))->∃l:List qw,l.length=n/\cs=uh l/\∀e∈l,me e.line/\me e.dH
 |0,cs,hl,_=>⟨[],rfl,zL (by omega),λx hx=>by cases hx⟩
 |n+1,cs,hl,h=>by
  have h0:=h 0 (by omega);rw[od,dj]at h0;obtain⟨x,e,hr⟩:=Zwu h0;obtain⟨xs,g1,g2,g3⟩:=ZnS (s:=s) n (cs.drop 4) (by rw[dT];omega) λj hj=>by
   have:=h (j+1) (by omega);rw[jX,show 4+j*4=(j+1)*4 by omega];exact this
  refine⟨x::xs,by simp[g1],?_,λy hy=>?_⟩
  .have e2:uh (x::xs)=Ax x++uh xs:=rfl
   rw[e2,<-g2,<-e,nu]
  .rcases dC.1 hy with rfl|hy
   .exact hr
   .exact g3 y hy
theorem ZuP {d:DV} (h:Rd s (.sl LF) [d]): ∃p l,d= .slice 4 p (List.length l)/\Sl s p (uh l)/\SpR l:=by
 rcases h with h|⟨i,n,cs,h1,h2,h3,_,h5⟩
 .exact⟨none,[],(BH h).1,rfl,⟨λx hx=>(nomatch hx),λx hx=>(nomatch hx)⟩⟩
 .obtain⟨xs,g1,rfl,g3⟩:=ZnS n cs h3 h5
  refine⟨some (i,0),xs,?_,⟨true,_,h2,by simp,by rw[dj,rq]⟩,⟨λx hx=>(g3 x hx).1,λx hx=>(g3 x hx).2⟩⟩;rw[(BH h1).1,g1];rfl
theorem law_law26_MarkSpoilt {Bd:Zh} (h:HA Bd) (s:St) (args:ah) (vO:JW s) (ht:wM s) (hr:J0 s [(true,aas),(false,.sl LF)] args): ∃n s',run Bd n 185 args s=some (.val [.bool true],s'):=by
 obtain⟨_,d,_,hx,jM,rfl,hd⟩:=hr;obtain⟨_,e,_,hy,IJ,rfl,he⟩:=jM;cases IJ;obtain⟨x,z1,p1,z2,p2,z3,p3,rfl,hZ,gD,kL,ca,rg⟩:=ags hx;have hd:d= .agg (dK x z1 p1 z2 p2 z3 p3):=hd;subst hd;have he:_=[e]:=he;subst he;obtain⟨ps,l,rfl,dG,De⟩:=ZuP hy;have hF:=ca.agx vO;refine Zxf (n:=100000) ?_;rw[Ze,h.abP];unfold Ox ZK bd az J8 ck Lb zY zU;rw[dt];unfold dK;simp only[av,Zg 2 z1 p1 _ hZ,Zg 1 z2 p2 _ gD,Zg 1 z3 p3 _ kL,bc,aq];refine Ok.call (ZjN 99999 (by omega) s ht) ?_;rintro _ ⟨s1,rfl,aG⟩;refine⟨_,s1,rfl,?_⟩;have IQ:=ht.mono aG;simp only[au,aq];have aaB:Ok (λo:Out ah×St=>∃s',o=(.val [DV.bool true],s')) (c9 (run Bd 99999 169 []) (λds=>gW ds λx7 ds=>aJ ds (ay [DV.bool x7])) s1):=by
  refine Ok.call (ZjN 99999 (by omega) s1 IQ) ?_;rintro _ ⟨s3,rfl,cq⟩;refine⟨_,s3,rfl,?_⟩;simp only[au,aq,Zd];exact .mk ⟨s3,rfl⟩
 rw[Za,bm,af];refine Ok.call (ZoG 99999 x 2 1 1 p1 p2 p3 s1 (.inl rfl) (.inl rfl) (.inl rfl) (ca.pre aG) (by omega)) ?_;rintro _ ⟨b,rfl,hb⟩;refine⟨_,s1,rfl,?_⟩;simp only[au,aq];rw[Za];cases b with
 |false=>
  rw[bp,ae];simp only[au,aq];rw[ae];exact aaB
 |true=>
 have sz:=(hb.1 rfl).sz;rw[bm,af];simp only[au,aq];by_cases H8:(l.length:Int)>6
 .rw[aw H8,ae]
  exact aaB
 rw[aB H8,af];refine Ok.call (Zj0 99999 x 2 1 1 p1 p2 p3 1 0 s1 (.inl rfl) (.inl rfl) (.inl rfl) (hF.kp aG.kp) sz) ?_;rintro _ ⟨s2,aZ,hq⟩;rcases hq with⟨B,sp,ib,q,hm,hB,rfl,pM⟩|⟨_,rfl⟩
 rotate_left
 .refine⟨_,s2,rfl,?_⟩
  unfold Zts;simp only[Zg 1 0 none _ (.inr rfl)];rw[dt];simp only[av,Zg 1 0 none _ (.inr rfl),au,aq];rw[Za,bp,ae];simp only[au,aq];rw[Zd];exact .mk ⟨s2,rfl⟩
 refine⟨_,s2,rfl,?_⟩;obtain⟨rfl,hP⟩:=Zs6 hB;obtain⟨g1,g2,_⟩:=Z3 hm.HQ;have Fa:=hP.len;have Mz:dz s2 (some (ib,0)) B:=⟨false,bK B,pM.dH,by omega,by rw[dj,rq]⟩;have cL:(gv x 1).aO.length=su x:=by
  show(ZR _ _).length=_;rw[sS]
 have Yq:su x=(x.blocks.toNat+383)/384:=rfl;have ahe:=Fa;simp only[bc];have iC:=Zop 99999 (some (ib,0)) B ps 4 l s2 Mz (.inl rfl) (dG.mono (aG.trans aZ)) De (by omega) (by omega) (by omega) (by omega);have qT:=λq9 s3 (cq:aD s2 s3) (hf:rB s3 q9 (w5 B l))=>ZoM 99999 q9 (w5 B l) (gv x 1) q s3 ((IQ.mono aZ).mono cq) hf.xi (pM.own.sl.mono cq) (by rw[Ku l (by omega)];omega) (by omega) (by omega)
 unfold dS at qT⊢;rw[dt];simp only[av,bc,au,aq];rw[Za,bm,af];refine Ok.xj iC ?_;rintro _ ⟨q9,s3,rfl,cq,hf⟩;refine⟨_,s3,rfl,?_⟩;simp only[bc,aq];have hw:=qT q9 s3 cq hf;rw[Ku l (by omega)]at hw;refine Ok.call hw ?_;rintro _ ⟨s4,rfl,_⟩;refine⟨_,s4,rfl,?_⟩;simp only[au,aq,Zd];exact .mk ⟨s4,rfl⟩
end Go.Gv.F
