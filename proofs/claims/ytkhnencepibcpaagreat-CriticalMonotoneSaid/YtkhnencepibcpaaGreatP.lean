/- The functions of the law. -/
import Derived.Test.YtkhnencepibcpaaGreatB
import Derived.Test.YtkhnencepibcpaaGreatK
import Derived.Test.YtkhnencepibcpaaGreatO
set_option linter.all false
set_option maxRecDepth 100000
open Bool renaming false->W,true->V
open Go.Proofs.Tryz renaming func21->azD,underlying22->adq,underlying35->akB,underlying39->aeu,underlying43->atJ,underlying78->atn
open Int renaming ofNat->gu
open List renaming getElem?_eq_some_iff->aa3,length_map->HY
open Option renaming none->X,some->O
open _root_ renaming Int->U,List->B,Nat->R,rfl->Q,trivial->sp
namespace Go.Abs
noncomputable section
open Go Go.Proofs
variable{TE TN rs te:aP}{cs:aF}{e:be}{g:fE}{i off v:R}{j k m n:U}{s:au}
section
variable{TN TE:aP}
structure qU (tn te:aP):Prop where
 n:∀(i:R) e,tn[i]? =some e->de (aC tn te) 7 [] i e
 e:∀(i:R) x,te[i]? =some x->de (aC tn te) 8 [(tn.length:U)] i x
 l1:1<=tn.length
 l6:tn.length<=6
 e5:te.length<=5
def xI:ym:=⟨22,3,[.ss 5,.sl 6 X,.sl 7 X,.sx [] X,.int .i64 0 0,.sx [] X,.sl 8 X,.sl 9 X,.sx [] X,.int .i64 0 0,.sx [] X,.sl 10 X,.sl 11 X,.sl 12 X,.sl 13 X,.sc (.bool V),.int .i64 14 1,.sl 15 X,.sx [] X,.sx [] X,.sx [] X,.sx [] X,.sx [] X,.int .i64 0 0,.sx [] X],[.str 5 rJ,.sl 6 16 0 10 [(1,0)],.sl 7 17 0 12 [(2,(-1)),(0,0),(16,(-1))],.pr 117 [.s 6,.s 7],.sl 8 18 0 10 [(1,0)],.sl 9 19 0 12 [(2,(-1)),(0,0),(18,(-1))],.pr 117 [.s 8,.s 9],.sl 10 20 0 1 [],.sl 11 21 0 1 [],.sl 12 20 0 1 [],.sl 13 21 0 1 [],.le 0 20 0,.le 20 16 0,.le 0 21 0,.le 21 17 0,.le 20 18 0,.le 21 19 0,.le 16 0 8,.le 17 0 8,.le 18 0 8,.le 19 0 8,.pr 118 [.s 6,.s 8],.pr 118 [.s 7,.s 9],.sl 15 14 0 15 [(1,0),(2,0),(16,0),(17,0)],.le 0 14 0,.le 14 0 1,.pr 119 [.s 15,.s 6,.s 7],.le 16 20 0,.le 17 21 0,.le 14 3 0]⟩
def ajc:(aC TN TE).td 16=O xI:=rfl
def zO(e:be):Prop:=∃f o,e[17]? =O (.sl f o)/\f≠[]
def nI(a:U):SV:=⟨a,W,[],[]⟩
def rW(n m k j:U)(r:sY):bC:=aX (SV.z::nI n::nI m::nI k::nI j::r)
def Pa(h:de (aC TN TE) 16 [n,m,k] j e):∃r:sY,e=aT (rW n m k j r) xI.cells/\∀f∈xI.facts,cL (aC TN TE) (rW n m k j r) f:=by obtain⟨_,u,h1,h2,D,A⟩:=(iO iB ajc).1 h;exact⟨u.drop 5,by rw[D,h1];rfl,λ f y=>by have:=A f y;rw[h1]at this;exact this⟩
def abV(tn te:aP)(a b:bC)(i j:U)(s:Bool):bC:=λ k=>match k with
 |1=>⟨0,W,[],tn⟩|2=>⟨0,W,[],te⟩|3=>a 5|4=>a 6|5=>a 7|6=>a 8|7=>a 9|8=>a 10|9=>a 11|10=>a 12|11=>a 13|12=>nI (a 14).i|13=>a 15
 |14=>b 5|15=>b 6|16=>b 7|17=>b 8|18=>b 9|19=>b 10|20=>b 11|21=>b 12|22=>b 13|23=>nI (b 14).i|24=>b 15
 |25=>nI i|26=>nI j|27=>⟨0,s,[],[]⟩|28=>nI tn.length|29=>nI te.length
 |30=>nI (a 16).i|31=>nI (a 17).i|32=>nI (a 18).i|33=>nI (a 19).i|34=>nI (a 20).i|35=>nI (a 21).i|36=>nI (b 16).i|37=>nI (b 17).i|38=>nI (b 18).i|39=>nI (b 19).i|40=>nI (b 20).i|41=>nI (b 21).i
 |_=>SV.z
def eM{α:Type}{p:α->Prop}{x:α}{l:B α}(h:p x)(t:∀f∈l,p f):∀f∈x::l,p f:=List.forall_mem_cons.2 ⟨h,t⟩
def aDr{tn:aP}(u:qU tn te){A y F D:U}{b:Bool}{r1 r2:sY}(h1:∀f∈xI.facts,cL (aC tn te) (rW tn.length te.length 1 A r1) f)(h2:∀f∈xI.facts,cL (aC tn te) (rW tn.length te.length 1 y r2) f):
 ∀f∈Mm.pre,cL (aC tn te) (abV tn te (rW tn.length te.length 1 A r1) (rW tn.length te.length 1 y r2) F D b) f:=by
 have p:=λ i {f} (e:xI.facts[i]? =O f)=>h1 f (iD e)
 have q:=λ i {f} (e:xI.facts[i]? =O f)=>h2 f (iD e)
 exact eM ⟨(fJ _).symm,u.n⟩<|eM ⟨(fJ _).symm,λ i x hx=>by have:=u.e i x hx;exact this⟩<|eM (by show(0:U)<=(tn.length:U)+(-1);have:=u.l1;omega)<|eM (by show(tn.length:U)<=0+6;have:=u.l6;omega)<|eM (by show(0:U)<=(te.length:U)+0;omega)<|eM (by show(te.length:U)<=0+5;have:=u.e5;omega)<|eM ⟨Q,Q⟩<|eM (p 0 Q)<|eM (p 1 Q)<|eM (p 2 Q)<|eM (p 3 Q)<|eM (p 4 Q)<|eM (p 5 Q)<|eM (p 6 Q)<|eM (p 7 Q)<|eM (p 8 Q)<|eM (p 9 Q)<|eM (p 10 Q)<|eM (p 11 Q)<|eM (p 12 Q)<|eM (p 13 Q)<|eM (p 14 Q)<|eM (p 15 Q)<|eM (p 16 Q)<|eM (p 17 Q)<|eM (p 18 Q)<|eM (p 19 Q)<|eM (p 20 Q)<|eM (p 21 Q)<|eM (p 22 Q)<|eM (p 23 Q)<|eM (p 24 Q)<|eM (p 25 Q)<|eM (p 26 Q)<|eM (p 27 Q)<|eM (p 28 Q)<|eM (q 0 Q)<|eM (q 1 Q)<|eM (q 2 Q)<|eM (q 3 Q)<|eM (q 4 Q)<|eM (q 5 Q)<|eM (q 6 Q)<|eM (q 7 Q)<|eM (q 8 Q)<|eM (q 9 Q)<|eM (q 10 Q)<|eM (q 11 Q)<|eM (q 12 Q)<|eM (q 13 Q)<|eM (q 14 Q)<|eM (q 15 Q)<|eM (q 16 Q)<|eM (q 17 Q)<|eM (q 18 Q)<|eM (q 19 Q)<|eM (q 20 Q)<|eM (q 21 Q)<|eM (q 22 Q)<|eM (q 23 Q)<|eM (q 24 Q)<|eM (q 25 Q)<|eM (q 26 Q)<|eM (q 27 Q)<|eM (q 28 Q)<|λ _ h=>bk
end
def ah5(h:de (aC TN TE) 29 [] j e):∃a b c d f g k l,e=[eI a,eI b,.sl c X,.sl d X,.sl f X,.sl g X,.sl k X,.sl l X,eI 2]:=by obtain⟨_,u,h1,h2,y,A⟩:=(iO iB Q).1 h;refine⟨(aX u 2).i+0,(aX u 3).i+0,(aX u 4).l,(aX u 5).l,(aX u 6).l,(aX u 7).l,(aX u 8).l,(aX u 9).l,?_⟩;rw[y];show[ak.sc _,.sc _,.sl _ X,.sl _ X,.sl _ X,.sl _ X,.sl _ X,.sl _ X,.sc _]=_;rw[(show aX u 0=SV.z by rw[h1];rfl)];rfl
def aH9:(115,X,20,Mm)∈lf:=iD (i:=115) Q
def ax0:(41,X,19,Xt)∈lf:=iD (i:=46) Q
def anV{r:sY}(h:∀f∈xI.facts,cL (aC TN TE) (rW n m k j r) f)(u:1<=(rW n m k j r 14).i):zO (aT (rW n m k j r) xI.cells):=by have h1:cL _ _ (.sl 15 14 0 15 [(1,0),(2,0),(16,0),(17,0)]):=h _ (by simp[xI]);have h2:=h1.1;refine⟨(rW n m k j r 15).l,X,Q,λ e=>?_⟩;rw[e]at h2;simp at h2;omega
def aDV{tn:aP}(ht:qU tn te){K J i0 j0:U}{b:Bool}{e1 e2:be}(h1:de (aC tn te) 16 [(tn.length:U),(te.length:U),1] K e1)(h2:de (aC tn te) 16 [(tn.length:U),(te.length:U),1] J e2):
 ∃l c,(∀S,VW js ml 20 [.agg [.sl tn X,.sl te X],.agg e1,.agg e2,eI i0,eI j0,eB b] S=O (.bp [.sl l X,eI c],S,W))/\(c=0\/c=3)/\(∀(k:R) e,l[k]? =O e->de (aC tn te) 29 [] k e)/\l.length<=4000/\(c=0->l≠[]->zO e1\/zO e2):=by
 obtain⟨r1,rfl,f1⟩:=Pa h1;obtain⟨r2,rfl,Z⟩:=Pa h2
 obtain⟨o,P,u,M,a2,F,D⟩:=GG (TN:=tn) (TE:=te) _ aH9 (abV tn te (rW tn.length te.length 1 K r1) (rW tn.length te.length 1 J r2) i0 j0 b) Q (λ i Y=>by
  iterate 41 (rcases i with _|i;·first|rfl|cases Y)
  cases Y) (aDr ht f1 Z) (λ m lo e=>bk)
 have y:aT (abV tn te (rW tn.length te.length 1 K r1) (rW tn.length te.length 1 J r2) i0 j0 b) Mm.args=[.agg [.sl tn X,.sl te X],.agg _,.agg (aT (rW tn.length te.length 1 J r2) xI.cells),eI (i0+0),eI (j0+0),eB b]:=rfl;simp only[fJ]at y;rw[y]at F;have e0:(u 0).i=0:=by rw[<-M 0 (by decide)];rfl
 have ac:(u 12).i=(rW tn.length te.length 1 K r1 14).i:=by rw[<-M 12 (by decide)];rfl
 have ab:(u 23).i=(rW tn.length te.length 1 J r2 14).i:=by rw[<-M 23 (by decide)];rfl
 simp only[Mm,cg,lr,lQ]at P;rcases P with rfl|rfl|rfl|rfl|rfl
 .have A:cL (aC tn te) u (.sl 42 43 0 29 []):=D _ aw;have N:(u 43).i<=(u 0).i+4000:=D (.le 43 0 4000) aw;have p3:(u 0).i<=(u 12).i+(-1):=D (.le 0 12 (-1)) aw;refine⟨(u 42).l,(u 0).i+0,F,.inl aa,A.2,by have:=A.1;omega,λ _ _=>.inl (anV f1 aa)⟩
 .have A:cL (aC tn te) u (.sl 42 43 0 29 []):=D _ aw;have N:(u 43).i<=(u 0).i+4000:=D (.le 43 0 4000) aw;have p3:(u 0).i<=(u 23).i+(-1):=D (.le 0 23 (-1)) aw;refine⟨(u 42).l,(u 0).i+0,F,.inl aa,A.2,by have:=A.1;omega,λ _ _=>.inr (anV Z aa)⟩
 .exact⟨[],(u 0).i+0,F,.inl aa,λ k e he=>bk,kG _,λ _ h=>absurd Q h⟩
 .have A:cL (aC tn te) u (.sl 42 43 0 29 []):=D _ aw;have N:(u 43).i<=(u 0).i+4000:=D (.le 43 0 4000) aw;refine⟨(u 42).l,(u 0).i+3,F,.inr aa,A.2,by have:=A.1;omega,λ h=>aa⟩
 .exact⟨[],(u 0).i+3,F,.inr aa,λ k e he=>bk,kG _,λ h=>aa⟩
theorem aDf{tn:aP}(u:qU tn te)(P:rs.length<=2)(J:∀(i:R) e,rs[i]? =O e->de (aC tn te) 16 [(tn.length:U),(te.length:U),1] i e)(S:gC):VW js ml 19 [.agg [.sl tn X,.sl te X],.sl rs X] S=O (eI 0,S,W):=by
 obtain⟨o,K,y,N,Z,M,Y⟩:=GG _ ax0 (λ k=>match k with|1=>⟨0,W,[],tn⟩|2=>⟨0,W,[],te⟩|3=>⟨0,W,[],rs⟩|4=>nI tn.length|5=>nI te.length|6=>nI rs.length|_=>SV.z) rfl (λ i A=>by
  iterate 6 (rcases i with _|i;·first|rfl|cases A)
  cases A) (λ f D=>by
  simp only[Xt,cg,lr,lQ]at D;rcases D with rfl|rfl|rfl|rfl|rfl|rfl|rfl|rfl|rfl|rfl
  .exact⟨(fJ _).symm,u.n⟩
  .exact⟨(fJ _).symm,λ i x hx=>by have:=u.e i x hx;grind[cM,nI]⟩
  .show(0:U)<=(tn.length:U)+(-1);have:=u.l1;omega
  .show(tn.length:U)<=0+6;have:=u.l6;omega
  .show(0:U)<=(te.length:U)+0;omega
  .show(te.length:U)<=0+5;have:=u.e5;omega
  .exact⟨rfl,rfl⟩
  .exact⟨(fJ _).symm,λ i x hx=>(J i x hx)⟩
  .show(0:U)<=(rs.length:U)+0;omega
  show(rs.length:U)<=0+2;omega) (nofun)
 obtain rfl:=cJ.1 K;have F:VW js ml 19 _ S=O (.sc _,S,W):=M S;rw[(show(y 0).i=0 by rw[<-N 0 (by decide)];rfl)]at F;exact F
section
variable{ng:R}{I:Im}{H K:aj}{G:Gh}
def aHE{u:bg}{l:aF}{H:aj}:eL af u 21 l H=u 21 l H:=by simp only[eL,azD];rfl
theorem aaV{p:Prop}(h:p:=by simp+decide only[AB];congr 1;simp;omega):p:=h
def arD{n:R}{c:U}(Z:c=0\/c=3)(Y:dh af 39 s=O (aW n)):∃r,fp af ng (bZ ng) 21 [s,ao c] H r/\((c=0/\n<=500/\r=(.tuple [s,ao 0],H))\/r=(.tuple [.aq,ao 3],H)):=by
 refine lp azD Q ?_;show bB af ng (bZ ng) 17 _ _ _ _;have a0:ai (eH [s,ao c] 0 .nil) 0=s:=rfl;have a1:ai (eH [s,ao c] 0 .nil) 1=ao c:=rfl;refine aB (aS (H':=H) (λ _=>True) sp ?_);intro T1 _ S;obtain⟨y,b1⟩:=jA S a0 a1;rcases Z with rfl|rfl
 .refine aB (aB (iK (H':=H) (λ T=>ai T 12=.bool (decide (n>500))) ?_ ?_))
  ·(iterate 3 (apply fC (cf Q);simp+decide only[AB,b1];rfl))
   (iterate 3 (apply amo (b:=V) (want:=V) (j:=2) (d:=8) Q Q Q Q (by simp+decide only[AB,b1]);simp+decide only[AB,y,Y];rfl))
   (apply fC (cf Q);simp+decide only[AB,b1];rfl)
   exact fX aaV
  intro T2 A M;obtain⟨y,b1⟩:=jA M y b1;refine eX (by rw[fQ,A]) (λ h=>?_) (λ h=>fZ ?_)
  .refine aS (H':=H) (λ T=>ai T 1=ao 3) sp ?_;intro T3 D k3;refine aB (aB (aS (H':=H) (λ T=>ai T 14=.bool V) D ?_));intro P u K;have D:=aL K D;refine eX (by rw[fQ,u]) (λ _=>?_) (λ h=>bk);refine aB (aS (H':=H) (λ T=>ai T 4=.aq/\ai T 5=ao 3) D ?_)
   rintro N ⟨J,F⟩ _
   refine iZ ⟨aw,[.aq,ao 3],?_,.inr Q⟩;show eG af _ _ [.tmp 4,.tmp 5]=_;simp only[eG,J,F]
  refine aB (aB (aS (H':=H) (λ T=>ai T 14=.bool W) @b1 ?_));intro P u K;have y:=aL K y;refine eX (by rw[fQ,u]) (λ h=>bk) (λ _=>fZ ?_);refine aB (aS (H':=H) (λ T=>ai T 4=s/\ai T 5=ao 0) y ?_)
  rintro N ⟨J,F⟩ _
  have hn:=tM h;refine iZ ⟨aw,[s,ao 0],?_,.inl ⟨Q,aa,Q⟩⟩;show eG af _ _ [.tmp 4,.tmp 5]=_;simp only[eG,J,F]
 refine aB (aB (iK (H':=H) (λ T=>ai T 12=.bool W) ?_ ?_))
 ·(iterate 3 (apply fC (cf Q);simp+decide only[AB,b1];rfl))
  (apply Wp (b:=W) (want:=V) (j:=2) (d:=8) Q Q Q Q (by simp+decide only[AB,b1]))
  (apply Wp (b:=W) (want:=V) (j:=2) (d:=8) Q Q Q Q (by simp+decide only[AB,b1]))
  (apply Wp (b:=W) (want:=V) (j:=2) (d:=8) Q Q Q Q (by simp+decide only[AB,b1]))
  (apply fC (cf Q);simp+decide only[AB,b1];rfl)
  exact fX gW
 intro T2 A M;obtain⟨y,b1⟩:=jA M y b1;refine eX (by rw[fQ,A]) (λ h=>bk) (λ h=>fZ ?_);refine aB (aB (aS (H':=H) (λ T=>ai T 14=.bool V) @b1 ?_));intro P u K;have D:=aL K b1;refine eX (by rw[fQ,u]) (λ _=>?_) (λ h=>bk);refine aB (aS (H':=H) (λ T=>ai T 4=.aq/\ai T 5=ao 3) D ?_)
 rintro N ⟨J,F⟩ _
 refine iZ ⟨aw,[.aq,ao 3],?_,.inr Q⟩;show eG af _ _ [.tmp 4,.tmp 5]=_;simp only[eG,J,F]
end
section
variable{ng:R}{I:Im}{H K:aj}{G:Gh}
def OP:Tryz.prog.info? 78=O Tryz.t78:=aH
def amI:Tryz.prog.info? 43=O Tryz.t43:=aH
def aoS:fW af 43=O (.agg [ao 0,ao 0]):=aH
def z9:aF:=[ao 0,ao 0,.aq,.aq,.aq,.aq,.aq,.aq,ao 0]
def ahO:fW af 78=O (.agg z9):=aH
def aCK(h:aQ g v off 9=O cs):cr af g 78 (.ptr v off)=O (.agg cs):=by have u:Tryz.t78.size=9:=rfl;simp only[cr,atn,OP,u,h];rfl
def ao9(h:aQ g v off 2=O cs):cr af g 43 (.ptr v off)=O (.agg cs):=by have u:Tryz.t43.size=2:=rfl;simp only[cr,atJ,amI,u,h];rfl
def aw3{v o:R}:fO af 78 (.ptr v o) 5=O (.ptr v (o+8)):=by have h:Nat.beq Tryz.t3.size 0=false:=rfl;simp only[fO,atn,mZ,h];rfl
def avb{H:aj}(h:cs.length=9):dD af H 78 (.ptr v off) (.agg cs)=write H v off cs:=by
 have h1:(au.agg cs).cells=cs:=rfl;have h2:Nat.beq cs.length Tryz.t78.size=true:=by rw[h];rfl
 simp only[dD,OP,h1,h2]
def atG{H:aj}{a b:au}:dD af H 43 (.ptr v off) (.agg [a,b])=write H v off [a,b]:=by have h1:(au.agg [a,b]).cells=[a,b]:=rfl;have h2:Nat.beq [a,b].length Tryz.t43.size=true:=rfl;simp only[dD,amI,h1,h2]
def awL{H:aj}:dD af H 3 (.ptr v off) (ao n)=write H v off [ao n]:=by have h1:(au.int .i64 n).cells=[ao n]:=rfl;have h2:Nat.beq [au.int .i64 n].length Tryz.t3.size=true:=rfl;simp only[dD,mZ,h1,h2]
def aFb{v off:R}:iL af 43 (.ptr v off) (ao 1)=O (.ptr v (off+1)):=by have u:Tryz.t3.size=1:=rfl;simp only[iL,atJ,mZ,u]
def asH{t:bj}:cY af .rem t (ao 3) (ao 2)=O (ao 1):=rfl
def ay7{t:bj}:cY af .add t (ao 2) (ao 1)=O (ao 3):=rfl
theorem atC(g:Good H){n:R}(hn:n<=1000)(hs:jX H.ah.get 9 n s cs)(hk:∀i,i<n->cs[i*9+8]? =O (ao 2))(h1:cs.all au.dm=true):∃r,fp af ng (bZ ng) 7 [s] H r/\∃x,r.1=.agg [ao 0,x]:=by
 obtain⟨H1,av,g1,f1,u,_⟩:=mg g [ao 0,ao 0] true 1;have f2:=iv g1 [ao 0,ao 0] true 1;have g2:=jb g1 [ao 0,ao 0] true 1;have M:=mK H1 [ao 0,ao 0] true 1;have lu:H.ae<H1.ae:=(g1.wf _ _ u.row).1;have az:=(g2.wf _ _ M.row).1;have u:=u.keep f2 aw;generalize Y:alloc H1 [ao 0,ao 0] true 1=H2 at*;have aA:=hs.keep (f1.trans f2);have ar:dh af 39 s=O (aW n):=hs.dh aeu;refine lp Tryz.func7 Q ?_;show bB af ng (bZ ng) 22 _ _ _ _;have a0:ai (eH [s] 0 .nil) 0=s:=rfl;have cz:(au.agg [ao 0,ao 0]).cells=[ao 0,ao 0]:=rfl;refine aB (aS (H':=H1) (λ T=>ai T 2=.ptr H.ae 0) (jG @aoS cz av) ?_);intro T1 t2 k1;have b0:=aL k1 a0;refine aB (aS (H':=H2) (λ T=>ai T 3=.ptr H1.ae 0) (jG @aoS cz Y) ?_);intro T2 t3 k2;obtain⟨b0,b2⟩:=jA k2 b0 t2;refine aB (aB (aS (H':=H2) (λ T=>ai T 6=s/\ai T 7=aW n/\ai T 8=aW 0) (iy b0 ar) ?_))
 rintro T3 ⟨t6,t7,t8⟩ k3
 obtain⟨b2,b3⟩:=jA k3 b2 t3;have Y:Fr X H H2:=f1.trans f2;refine gR (pq (λ mm T K=>∃i:R,mm+i=n/\Good K/\Fr X H K/\qJ K H.ae ⟨[ao 0,ao 0],H.ae,0,true,W,1⟩/\qJ K H1.ae ⟨[ao 0,aW i],H1.ae,0,true,W,1⟩/\ai T 2=.ptr H.ae 0/\ai T 3=.ptr H1.ae 0/\ai T 6=s/\ai T 7=aW n/\ai T 8=aW i) ?_ n _ _ ⟨0,aa,g2,Y,u,M,b2,b3,t6,t7,t8⟩);clear t6 t7 t8 b2 b3 k1 k2 k3 t2 t3 b0 u M
 rintro mm T K ⟨i,hi,gk,fr,u,M,b2,b3,J,F,A⟩
 refine aB (aS (H':=K) (λ T=>ai T 9=.bool (decide (i<n))) (jG F A @CP) ?_);intro T4 t9 k4;obtain⟨b2,b3,J,F,A⟩:=nR k4 b2 b3 J F A;refine aB (eX (by rw[fQ,t9]) (λ S=>fZ ?_) (λ aC=>mY ?_))
 .have S:=jL S;have ap:=hs.keep fr;obtain⟨y,o,x1,x9,_⟩:=ap.index S aeu OP Q;have aD:cs.length=n*9:=hs.1;have ak:((cs.drop (i*9)).take 9).length=9:=by grind[List.length_take,List.length_drop]
  have ay:((cs.drop (i*9)).take 9)[8]? =O (ao 2):=by grind
  have ag:((cs.drop (i*9)).take 9).all au.dm=true:=iw.2 λ a ha=>iw.1 h1 a (apG (UJ ha))
  generalize(cs.drop (i*9)).take 9=ch at*;have fa:=iv gk z9 true 1;have ga:=jb gk z9 true 1;have oa:=mK K z9 true 1;have am:=u.keep fa aw;have al:=M.keep fa aw;have ab:H.ae<K.ae:=(gk.wf _ _ u.row).1;have an:H1.ae<K.ae:=(gk.wf _ _ M.row).1;obtain⟨Z,w1,w2,w3,w4,w5⟩:=nK ga oa (off:=0) (new:=ch) (by show 0+ch.length<=9;omega) ag;have ad:eV z9 0 ch=ch:=by unfold eV;rw[ak,jM,mG,show z9.drop (0+9)=[]from Q,ou]
  have N:∀{a b:R},a<b->(O a:bA)≠O b:=λ h e=>by cases e;exact KR _ h
  have p1:=am.keep w3 (N ab);have p2:=al.keep w3 (N an);obtain⟨K3,v1,v2,v3,v4,v5⟩:=nK w5 p2 (off:=1) (new:=[aW (i+1)]) (aZ 2) Q;have aq:eV [au.int .i64 0,aW i] 1 [aW (i+1)]=[ao 0,aW (i+1)]:=rfl;have q1:=p1.keep v3 (N lu);have P:=(avb (H:=alloc K z9 true 1) (v:=K.ae) (off:=0) ak).trans w1;have ac:=(awL (H:=Z) (v:=H1.ae) (off:=1) (n:=gu (i+1))).trans v1;have l5:cr af Z.ah.get 3 (.ptr K.ae 8)=O (ao 2):=vA (by have hr:=w2.row;simp only[ad]at hr;simp only[aQ,hr,cD (aa:8+1<=ch.length)];grind[List.drop_eq_getElem_cons,aa3])
  have l3:cr af Z.ah.get 3 (.ptr H1.ae 1)=O (aW i):=vA (by simp only[aQ,p2.row];rfl)
  have ax:(au.agg z9).cells=z9:=rfl;refine aB (gR (aB (aS (H':=Z) (λ T=>ai T 5=.ptr K.ae 0) (zA J A x1 (aCK x9) @ahO ax P) ?_)));intro T5 t5 k5;obtain⟨b2,b3,J,F,A⟩:=nR k5 b2 b3 J F A;have D:∀{t:bj},cY af .add t (aW i) (ao 1)=O (aW (i+1)):=M8 aa;refine aS (H':=K3) (λ _=>True) (mN t5 @b3 @aw3 l5 @ay7 @asH @aFb (jG l3 @D ac)) ?_;intro T6 _ k6;obtain⟨b2,b3,J,F,A⟩:=nR k6 b2 b3 J F A;refine aS (H':=K3) (λ T=>ai T 8=aW (i+1)) (iy A @D) ?_;intro T7 t8 k7;refine⟨mm- 1,aa,i+1,aa,v5,?_,q1,by rw[<-aq];exact v2,aL k7 b2,aL k7 b3,aL k7 J,aL k7 F,t8⟩;refine((fr.trans fa).jv g w3 λ f e=>?_).jv g v3 λ f e=>?_
  .cases e;exact OH ab
  cases e;exact OH lu
 show bB af ng (bZ ng) 22 _ _ _ _;obtain⟨Z,w1,w2,w3,w4,w5⟩:=nK gk u (off:=0) (new:=[ao 0,aW i]) (aZ 2) Q;have P:=(atG (H:=K) (v:=H.ae) (off:=0) (a:=ao 0) (b:=aW i)).trans w1;have l3:cr af K.ah.get 43 (.ptr H1.ae 0)=O (.agg [ao 0,aW i]):=ao9 (by simp only[aQ,M.row];rfl)
 have l2:cr af Z.ah.get 43 (.ptr H.ae 0)=O (.agg [ao 0,aW i]):=ao9 (by have hr:=w2.row;simp only[aQ,hr];rfl)
 refine aB (aS (H':=Z) (λ _=>True) (nP @b2 @b3 l3 P) ?_);intro T8 _ k8;have b2:=aL k8 b2;refine iZ ⟨aw,[.agg [ao 0,aW i]],?_,_,Q⟩;show eG af _ _ [.cell 2 43]=_;simp only[eG,b2,l2]
end
section
variable{n:R}
variable{ng:R}{I:Im}{H K:aj}{G:Gh}
def azr{u:bg}{l:aF}{H:aj}:eL af u 19 l H=u 19 l H:=by simp only[eL,Tryz.func19];rfl
def aC7{u:bg}{l:aF}{H:aj}:eL af u 20 l H=u 20 l H:=by simp only[eL,Tryz.func20];rfl
def Vf:Tryz.prog.info? 68=O Tryz.t68:=aH
def afj(h:aQ g v off 25=O cs):cr af g 68 (.ptr v off)=O (.agg cs):=by have u:Tryz.t68.size=25:=rfl;simp only[cr,Tryz.underlying68,Vf,u,h];rfl
def aHf{H:aj}{x:au}{new:aF}(A:lenOf x=O n)(D:er H.ah.get 9 n x=O new):iC af H [39,39] [s,x]=gM H 9 Tryz.t78.bytes s n new:=by obtain⟨z,y,u⟩:∃z,fW af 78=O z/\z.cells.length=9:=⟨_,ahO,Q⟩;have h1:Tryz.t78.size=9:=rfl;simp+decide only[iC,aeu,OP,y,u,h1,A,D]
theorem ajz(S:bO I g){es:aP}{a:au}(y:RP I (.sl es X) a)(D:es[i]? =O e){t F:bj}{j:TypeInfo}(K:Tryz.prog.underlying t=O (.slice F))(P:Tryz.prog.info? F=O j)(u:e.length=j.size)(h0:0<j.size):
 ∃v off cs,(∀k,iL af t a (.int k (.ofNat i))=O (.ptr v off))/\aQ g v off j.size=O cs/\dq I e cs:=by
 have A:i<es.length:=(pC.1 D).1;simp only[RP]at y;rcases y with⟨rfl,_⟩|⟨v,off,lim,r,sz,rfl,h1,h2,Z,Y⟩
 .cases A
 .obtain⟨q1,q2,J⟩:=afH Y D;have M:sz=j.size:=by rw[<-q1,u]
  subst M;have N:i*j.size+j.size<=es.length*j.size:=by grind[Nat.mul_le_mul_right,Nat.add_mul]
  refine⟨v,off+i*j.size,_,λ k=>?_,?_,J⟩;.simp only[iL,K,P,cD A]
  simp only[aQ,S _ _ h1,cD (aa:off+i*j.size+j.size<=r.cells.length)];grind[List.drop_take,List.drop_drop,Nat.min_eq_left]
def apl{ρ:Bx}:∀{e:be} {cs:aF},dq I e cs->bu ρ I e cs/\e.all ak.cell=V
 |[],cs,h=>by rw[xp.1 h];exact⟨by simp only[bu],Q⟩
 |v::e,cs,h=>by obtain⟨c,ds,rfl,h1,h2⟩:=fL.1 h;obtain⟨q1,q2⟩:=apl (ρ:=ρ) h2;exact⟨bJ.2 ⟨c,ds,Q,ZV h1,q1⟩,by rw[ny,(agK h1).2.2,q2];rfl⟩
def Mb(n:R)(cs:aF):Prop:=∀i,i<n->cs[i*9+8]? =O (ao 2)
theorem awz{m:R}{ds:aF}(h:Mb n cs)(k:Mb m ds)(u:cs.length=n*9):Mb (n+m) (cs++ds):=λ i y=>by
 by_cases h1:i<n;.rw[AV aa];exact h i h1
 rw[uH aa,u];have:=k (i-n) aa;grind
theorem alX:∀{l:aP} {cs:aF},(∀e∈l,∃j,de (aC TN TE) 29 [] j e)->cx I 9 l cs->Mb l.length cs
 |[],cs,_,_=>λ i A=>by cases A
 |e::l,cs,h,y=>by
  obtain⟨j,F⟩:=h e (dJ ..);obtain⟨a,b,c,d,f,g,k,m,rfl⟩:=ah5 F;have u:=yP y;simp only[rO]at u;simp only[cx]at y;obtain⟨_,h2,K⟩:=y;have D:=alX (λ e J=>h e (cV _ J)) K;intro i A;cases i
  .have Z:(cs.take 9)[8]? =O (ao 2):=by generalize cs.take 9=ds at h2;simp only[dq,RP]at h2;obtain⟨Y,t,rfl,_,S,t,rfl,_,P,t,rfl,_,x3,t,rfl,_,x4,t,rfl,_,x5,t,rfl,_,N,t,rfl,_,M,t,rfl,_,x8,t,rfl,⟨rfl,_⟩,rfl⟩:=h2;rfl
   grind
  rename_i i;have:=D i (by simpa using A);grind
end
section
variable{ng:R}{I:Im}{H K:aj}{G:Gh}
def alB(h:de (aC TN TE) 16 [n,m,k] j e):e.length=25:=by obtain⟨r,rfl,_⟩:=Pa h;rfl
structure PS (H K:aj) (s:au) (n:R) (cs:aF) (fm:bA) (fb:Prop):Prop where
 own:cm K 9 n s cs fm
 fr:lq H fm
 kd:Mb n cs
 l:n<=500
 fb:n≠0->fb
 one:cs.all au.dm=true
def akn(h:de (aC TN TE) 16 [n,m,k] j e):e.map eZ=e/\(ak.agg e).open=false:=by obtain⟨r,rfl,_⟩:=Pa h;exact⟨Q,Q⟩
theorem aqa(g:Good H)(hI:bO I H.ah.get){tn:aP}(ht:qU tn te){S Y s:au}(hN:RP I (.sl tn X) S)(hE:RP I (.sl te X) Y)(hl:rs.length<=2)(hr:∀(i:R) e,rs[i]? =O e->de (aC tn te) 16 [(tn.length:U),(te.length:U),1] i e)(hs:RP I (.sl rs X) s):
 ∃r,fp af ng (bZ ng) 6 [.agg [S,Y],s] H r/\Fr X H r.2/\Good r.2/\(r.1=.tuple [.aq,ao 3]\/∃sl n cs fm,r.1=.tuple [sl,ao 0]/\PS H r.2 sl n cs fm (∃e∈rs,zO e)):=by
 obtain⟨H1,ba,g1,f1,o1,_⟩:=mg g [S,Y] V 1;have ak:∀{K:aj},Fr X H1 K->cr af K.ah.get 34 (.ptr H.ae 0)=O (.agg [S,Y]):=λ {K} fr=>Ii (by have:=fr.row _ _ o1.row aw;simp only[aQ,this];rfl)
 have rT:∀{K:aj},aJ ρ0 (eh I H K) (.agg [.sl tn X,.sl te X]) (.agg [S,Y]):=λ {K}=>by simp only[aJ];exact⟨Q,_,Q,bJ.2 ⟨_,_,Q,by simp only[aJ];exact fD (nw g hI) _ _ hN,bJ.2 ⟨_,_,Q,by simp only[aJ];exact fD (nw g hI) _ _ hE,by simp only[bu]⟩⟩⟩
 have aV:bu ρ0 (eh I H H1) [.agg [.sl tn X,.sl te X],.sl rs X] [.agg [S,Y],s]:=bJ.2 ⟨_,_,Q,rT,bJ.2 ⟨_,_,Q,by simp only[aJ];exact fD (nw g hI) _ _ hs,by simp only[bu]⟩⟩;obtain⟨x,K3,e1,e2,e3,e4,e5⟩:=yo (ng:=ng) (Ee (ng:=ng)) qY uT g hI g1 f1 (aDf ht hl hr []) Q Q aV;have e5:x=ao 0:=by simp only[aJ]at e5;exact e5.1
 subst e5;have bo:=f1.trans e3;have aI:dh af 35 s=O (ao (gu rs.length)):=tB hs akB;refine lp Tryz.func6 Q ?_;show bB af ng (bZ ng) 61 _ _ _ _;have a0:ai (eH [.agg [S,Y],s] 0 .nil) 0=.agg [S,Y]:=rfl;have a1:ai (eH [.agg [S,Y],s] 0 .nil) 1=s:=rfl;have hc:(au.agg [S,Y]).cells=[S,Y]:=rfl;refine aB (aS (H':=H1) (λ T=>ai T 2=.ptr H.ae 0) (jG a0 hc ba) ?_);intro T1 t2 k1;have b1:=aL k1 a1;refine aB (aB (aS (H':=K3) (λ T=>ai T 6=ao 0) (xK @b1 t2 (ak (Fr.refl _ _)) @azr e1) ?_));intro T2 t6 k2;obtain⟨b1,b2⟩:=jA k2 b1 t2;refine aB (aS (H':=K3) (λ T=>ai T 16=.bool W) t6 ?_);intro T3 aE k3;obtain⟨b1,b2⟩:=jA k3 b1 b2;refine eX (by rw[fQ,aE]) (λ h=>bk) (λ _=>fZ ?_);refine aB (aS (H':=K3) (λ T=>ai T 7=.aq) sp ?_);intro T4 t7 k4;obtain⟨b1,b2⟩:=jA k4 b1 b2;refine aB (aB (aS (H':=K3) (λ T=>ai T 19=ao (gu rs.length)/\ai T 20=aW 0) (iy @b1 aI) ?_))
 rintro T5 ⟨aD,ad⟩ k5
 obtain⟨b1,b2,F⟩:=pB k5 b1 b2 t7;refine gR (pq (λ mm T K=>∃(i:R) (sl:au) (n:R) (cs:aF) (fm:bA),mm+i=rs.length/\PS H1 K sl n cs fm (∃e∈rs,zO e)/\Good K/\Fr X H1 K/\ai T 1=s/\ai T 2=.ptr H.ae 0/\ai T 7=sl/\ai T 19=ao (gu rs.length)/\ai T 20=aW i) ?_ rs.length _ _ ⟨0,.aq,0,[],X,aa,⟨⟨Q,.inl ⟨Q,Q,Q⟩⟩,λ f e=>bk,λ i hi=>bk,kG _,λ h=>absurd Q h,Q⟩,e2,e3,b1,b2,F,aD,ad⟩);clear k1 k2 k3 k4 k5 t2 t6 aE t7 aD ad b1 b2 F
 rintro mm T K ⟨i,sl,n,cs,fm,hi,J,gk,fr,b1,b2,F,D,A⟩
 refine aB (aS (H':=K) (λ T=>ai T 21=.bool (decide (i<rs.length))) (jG D A @CP) ?_);intro T6 aA k6;obtain⟨b1,b2,F,D,A⟩:=nR k6 b1 b2 F D A;refine aB (eX (by rw[fQ,aA]) (λ ab=>fZ ?_) (λ av=>mY ?_))
 .have ab:=jL ab;refine aB (gR (aB (aS (H':=K) (λ T=>ai T 8=aW i) A ?_)));intro T7 t8 k7;obtain⟨b1,b2,F,D,A⟩:=nR k7 b1 b2 F D A;refine aB (aS (H':=K) (λ T=>ai T 9=aW i) t8 ?_);intro T8 t9 k8;obtain⟨b1,b2,F,P,D,A⟩:=Aw k8 b1 b2 F t8 D A;refine gR (pq (λ mj T K=>∃(j:R) (sl:au) (n:R) (cs:aF) (fm:bA),mj+j=rs.length/\PS H1 K sl n cs fm (∃e∈rs,zO e)/\Good K/\Fr X H1 K/\ai T 1=s/\ai T 2=.ptr H.ae 0/\ai T 7=sl/\ai T 8=aW i/\ai T 9=aW j/\ai T 19=ao (gu rs.length)/\ai T 20=aW i) ?_ (rs.length-i) _ _ ⟨i,sl,n,cs,fm,aa,J,gk,fr,b1,b2,F,P,t9,D,A⟩);clear k6 k7 k8 aA t8 t9 b1 b2 F P D A J gk fr
  rintro mj T K ⟨j,sl,n,cs,fm,hj,J,gk,fr,b1,b2,F,P,b9,D,A⟩
  refine aB (aB (aS (H':=K) (λ T=>ai T 27=.bool (decide (j<rs.length))) (nP @b1 b9 aI @CP) ?_));intro T9 aT k9;obtain⟨b1,b2,F,P,b9,D,A⟩:=Dn k9 b1 b2 F P b9 D A;refine eX (by rw[fQ,aT]) (λ ac=>fZ ?_) (λ av=>mY ?_)
  .have ac:=jL ac;have aR:=f1.trans fr;have aM:bO I K.ah.get:=λ u r e=>aR.row u r (hI u r e) aw
   have r1:=hr i _ (eg ab);have r2:=hr j _ (eg ac);have bl:rs[i]∈rs:=qP ab;have bj:rs[j]∈rs:=qP ac;obtain⟨y1,p1,ci,xi,ri,a8⟩:=ajz aM hs (eg ab) akB Vf (alB r1) cB;obtain⟨y2,p2,cj,xj,rj,a7⟩:=ajz aM hs (eg ac) akB Vf (alB r2) cB;generalize rs[i]=ei at*;generalize rs[j]=ej at*;obtain⟨l,c,a3,aK,aG,bm,bn⟩:=aDV ht (i0:=gu i) (j0:=gu j) (b:=decide (gu i=gu j)) r1 r2;obtain⟨iz,aZ⟩:=akn r1;obtain⟨dp,aY⟩:=akn r2;have zQ:∀{e:be} {cs:aF},dq I e cs->aJ ρ0 (eh I H K) (.agg e) (.agg cs):=λ {e cs} h=>by obtain⟨q1,q2⟩:=apl (ρ:=ρ0) (B0 (nw g hI) _ _ h);simp only[aJ];exact⟨q2,_,Q,q1⟩
   have ar:bu ρ0 (eh I H K) [.agg [.sl tn X,.sl te X],.agg ei,.agg ej,eI (gu i),eI (gu j),eB (decide (gu i=gu j))] [.agg [S,Y],.agg ci,.agg cj,aW i,aW j,.bool (decide (gu i=gu j))]:=bJ.2 ⟨_,_,Q,rT,bJ.2 ⟨_,_,Q,zQ a8,bJ.2 ⟨_,_,Q,zQ a7,bJ.2 ⟨_,_,Q,by simp[aJ,jP],bJ.2 ⟨_,_,Q,by simp[aJ,jP],bJ.2 ⟨_,_,Q,by simp[aJ,jP],by simp only[bu]⟩⟩⟩⟩⟩⟩;obtain⟨a,K4,w1,w2,w3,w4,w5⟩:=yo (ng:=ng) (Ee (ng:=ng)) qY uT g hI gk aR (a3 []) (by simp only[UN,List.any_nil,aZ,aY];rfl) (by simp only[nA,KN,dg,iz,dp];rfl) ar
   obtain⟨sa,rfl,a4⟩:∃sa,a=.tuple [sa,ao c]/\RP (eh I H K4) (.sl l X) sa:=by
    simp only[aJ]at w5;rcases w5 with h|⟨bs,rfl,h⟩
    .cases h
    obtain⟨x,y,rfl,q1,q2⟩:=WU h;have q2:y=ao c:=by simp only[aJ]at q2;exact q2.1
    subst q2;exact⟨x,Q,by simpa only[aJ]using q1⟩
   have ay:=fr.trans w3;have aO:=f1.trans ay;have a9:bO (eh I H K4) K4.ah.get:=TV hI aO;have ag:∀e∈l,∃j,de (aC tn te) 29 [] j e:=λ e he=>by obtain⟨k,hk⟩:=Cz he;exact⟨k,aG k e hk⟩
   obtain⟨q1,ds,q2,q3,q4,_⟩:=Bi a4 (sz:=9) (λ e he=>by obtain⟨k,hk⟩:=ag e he;obtain⟨_,_,_,_,_,_,_,_,rfl⟩:=ah5 hk;rfl) a9
   have aX:=J.own.nQ w3;have bi:=J.l;obtain⟨s2,K5,bc,v1,v2,v3,v4,v5⟩:=yp (k:=l.length) (bytes:=Tryz.t78.bytes) (new:=ds) w2 cB aX q3 (MW q4) (by show(n+l.length)*168<=1099511627776;omega) mE;have al:=aHf (s:=sl) q1 q2;rw[v1]at al;have am:Fr X H1 K5:=ay.jv g1 v3 J.fr;have bb:Fr X H K5:=f1.trans am;obtain⟨rf,x1,x2⟩:=arD (ng:=ng) (H:=K5) aK (v2.read.dh aeu);have az:=nW vZ x1;have l1:=afj ri;have l2:=afj rj;refine aB (gR (aB (Rb (H':=K4) (λ T=>ai T 10=sa/\ai T 11=ao c) aH ?_ ?_)))
   ·(repeat ((first|apply fC (cf rfl)|apply jF rfl rfl rfl);simp+decide only[AB,b1,b2,P,b9,ak fr,xi,xj,l1,l2,mG,ou,aC7,w1,KO,OD];rfl))
    exact fX (by simp+decide only[AB,uM,true_and])
   rintro bh ⟨aU,Z⟩ N
   obtain⟨b1,b2,F,P,b9,D,A⟩:=Dn N b1 b2 F P b9 D A;obtain⟨ra,rc,a5,ax⟩:∃ra rc,rf=(.tuple [ra,ao rc],K5)/\((c=0/\n+l.length<=500/\ra=s2/\rc=0)\/(ra=.aq/\rc=3)):=by grind
   rw[a5]at az;refine aB (aS (H':=K5) (λ T=>ai T 7=ra/\ai T 11=ao rc) (mN F aU Z al @aHE az @KO.{0} @OD.{0}) ?_)
   rintro bp ⟨t7,Z⟩ a2
   obtain⟨b1,b2,P,b9,D,A⟩:=Aw a2 b1 b2 P b9 D A;rcases ax with⟨rfl,aN,rfl,rfl⟩|⟨rfl,rfl⟩
   .refine aB (aS (H':=K5) (λ T=>ai T 57=.bool W) Z ?_);intro bg an ap;obtain⟨b1,b2,F,P,b9,D,A⟩:=Dn ap b1 b2 t7 P b9 D A;refine eX (by rw[fQ,an]) (λ h=>bk) (λ _=>fZ ?_);show bB af ng (bZ ng) 61 _ _ _ _;refine iK (H':=K5) (λ T=>ai T 9=aW (j+1)) ?_ ?_
    ·(repeat ((first|apply fC (cf rfl)|apply jF rfl rfl rfl);simp+decide only[AB,b9,M8 (aa:j<=100000)];rfl))
     exact fX gW
    intro bf t9 M;refine⟨mj- 1,aa,j+1,_,n+l.length,cs++ds,bc,aa,⟨v2,λ f e=>?_,awz J.kd (alX ag q4) J.own.1,aN,λ h0=>?_,by rw[List.all_append,J.one,MW q4];rfl⟩,v4,am,aL M b1,aL M b2,aL M F,aL M P,t9,aL M D,aL M A⟩
    .rcases v5 with rfl|⟨f',h1,rfl⟩
     .exact J.fr f e
     cases e;exact fI ay.ae h1
    by_cases a6:n=0;.grind
    exact J.fb a6
   refine aB (aS (H':=K5) (λ T=>ai T 57=.bool V) Z ?_);intro bg an ap;have bd:=aL ap Z;refine eX (by rw[fQ,an]) (λ _=>?_) (λ h=>bk);refine aB (aS (H':=K5) (λ T=>ai T 4=.aq/\ai T 5=ao 3) bd ?_)
   rintro bf ⟨t4,t5⟩ _
   refine iZ ⟨aw,[.aq,ao 3],?_,bb,v4,.inl Q⟩;show eG af _ _ [.tmp 4,.tmp 5]=_;simp only[eG,t4,t5]
  have av:=tM av;show bB af ng (bZ ng) 61 _ _ _ _;refine iK (H':=K) (λ T=>ai T 20=aW (i+1)) ?_ ?_
  ·(repeat ((first|apply fC (cf rfl)|apply jF rfl rfl rfl);simp+decide only[AB,A,M8 (aa:i<=100000)];rfl))
   exact fX gW
  intro bh ad N;exact⟨mm- 1,aa,i+1,sl,n,cs,fm,aa,J,gk,fr,aL N b1,aL N b2,aL N F,aL N D,ad⟩
 .show bB af ng (bZ ng) 61 _ _ _ _;refine aB (aS (H':=K) (λ T=>ai T 4=sl/\ai T 5=ao 0) F ?_)
  rintro T7 ⟨t4,t5⟩ _
  refine iZ ⟨aw,[sl,ao 0],?_,f1.trans fr,gk,.inr ⟨sl,n,cs,fm,Q,⟨J.own,λ f e=>fI f1.ae (J.fr f e),J.kd,J.l,J.fb,J.one⟩⟩⟩;show eG af _ _ [.tmp 4,.tmp 5]=_;simp only[eG,t4,t5]
end
section
variable{ng:R}{aae:bg}
def Xo(i:R)(a:wh):Prop:=∃c,sU[i]? =O c/\((∃u,3<=u/\u<=11/\a=([c],-3,u,[]))\/a=([c],0,1,[[111,102,102],[111,110]]))
def PC(i:R)(x:zu):Prop:=∃c,sA[i]? =O c/\x.1=[c]/\ -1<=x.2.1/\x.2.1<=(i:U)- 1/\x.2.2.2.length<=1/\∀a∈x.2.2.2,Xo i a
def Tn(n j:R)(e:I9):Prop:=∃c,xr[j]? =O c/\e.1=[c]/\(0<=e.2.1/\e.2.1<n)/\(0<=e.2.2.1/\e.2.2.1<n)/\e.2.2.2=(0,-1,0,-1)
theorem aGA{I:Im}{H:aj}(g:Good H)(hI:bO I H.ah.get){zN Y:Ji}(pN:∀p∈zN,P8 p)(pE:∀p∈Y,P8 p){sN sE:au}(hN:RP I (.sl (zN.map vw) X) sN)(hE:RP I (.sl (Y.map vw) X) sE)(lN:zN.length<=1000)(lE:Y.length<=1000):
 ∃r,fp af ng aae 8 [sN,sE] H r/\Fr X H r.2/\Good r.2/\∃v w y A fl M,r.1=.agg [v,w]/\mO Gr r.2 (H.ae+2) v y fl/\(m9 KU).rel r.2.ah.get (λ f=>f<M) A [w]/\(∀f,fl=O f->f<M)/\H.ae+2<=M/\1<=y.length/\y.length<=6/\A.length<=5/\(∀i x,y[i]? =O x->PC i x)/\∀(k:R) e,A[k]? =O e->Tn y.length k e:=by
 refine lp Tryz.func8 Q ?_;show bB af ng aae 124 _ _ _ _;have a0:ai (eH [sN,sE] 0 .nil) 0=sN:=rfl;have a1:ai (eH [sN,sE] 0 .nil) 1=sE:=rfl;have bl:(au.agg [.aq,.aq]).cells=[.aq,.aq]:=rfl;have f0:=iv g [.aq,.aq] true 1;have g0:=jb g [.aq,.aq] true 1;have f1:=iv g0 [.aq,.aq] true 1;have g1:=jb g0 [.aq,.aq] true 1;have o4:=(mK H [.aq,.aq] true 1).keep f1 aw;have o5:=mK (alloc H [.aq,.aq] true 1) [.aq,.aq] true 1;refine aB (aS (H':=alloc H [.aq,.aq] true 1) (λ T=>ai T 4=.ptr H.ae 0) (jG a0 @ahZ bl) ?_);intro T1 t4 k1;have bd:(alloc H [.aq,.aq] true 1).ae=H.ae+1:=rfl;generalize bt:alloc (alloc H [.aq,.aq] true 1) [.aq,.aq] true 1=H2 at*;have b3:H2.ae=H.ae+2:=by rw[<-bt];rfl
 rw[bd]at o5;refine aB (aS (H':=H2) (λ T=>ai T 5=.ptr (H.ae+1) 0) (nP @ahZ bl bt bd) ?_);intro T2 t5 k2;obtain⟨b0,b1,b4⟩:=pB k2 (aL k1 a0) (aL k1 a1) t4;have bz:Fr X H H2:=f0.trans f1;have bs:∀{fm:bA} {K:aj},Fr fm H2 K->(∀f,fm=O f->H.ae<=f)->bO I K.ah.get:=λ fr hf u r e=>by have hu:=hI u r e;refine fr.row u r (bz.row u r hu aw) ?_;intro e2;have:=hf _ e2.symm;have:=(g.wf u r hu).2;omega
 refine aB (aB (aS (H':=H2) (λ T=>ai T 6=aW 0) b0 ?_));intro T3 t6 k3;obtain⟨c0,c1,c4,c5⟩:=xu k3 b0 b1 b4 t5;refine gR (pq (λ m T K=>∃(i:R) (v:au) (y:B zu) (fl:bA),m+i=6/\y.length=i/\(∀j x,y[j]? =O x->PC j x)/\mO Gr K H2.ae v y fl/\qJ K (H.ae+1) (Sx (H.ae+1) v .aq)/\Fr (O (H.ae+1)) H2 K/\Good K/\ai T 0=sN/\ai T 1=sE/\ai T 4=.ptr H.ae 0/\ai T 5=.ptr (H.ae+1) 0/\ai T 6=aW i) ?_ 6 _ _ ⟨0,.aq,[],X,Q,Q,λ j x h=>by simp at h,mO.nil _ _ _,o5,Fr.refl _ _,g1,c0,c1,c4,c5,t6⟩)
 rintro m T K ⟨i,v,y,fl,hm,aK,b2,hL,aG,Z,gk,u0,u1,u4,u5,u6⟩
 have br:=bs Z (λ f e=>by cases e;omega);have S:dh af 22 sN=O (ao (gu zN.length)):=by grind[tB,adq,HY]
 refine aB (aB (iK (H':=K) (λ T=>ai T 23=.bool (decide (i=0\/(i<zN.length/\i<6)))) ?_ ?_))
 .by_cases h0:i=0
  .have e1:decide (gu i=0)=true:=jR (by subst h0;rfl);rw[jR (show i=0\/(i<zN.length/\i<6)from .inl h0)]
   (repeat ((first|apply fC (cf rfl)|apply jF rfl rfl rfl);simp+decide only[AB,u0,u6,e1];rfl))
   exact fX gW
  have e1:decide (gu i=0)=false:=my (λ h=>h0 (Int.ofNat.inj h));by_cases h1:i<zN.length
  .have e2:decide (gu i<gu zN.length)=true:=jR (UX.2 h1);by_cases h2:i<6
   .have e3:decide (gu i<6)=true:=jR Dh;rw[jR (show i=0\/(i<zN.length/\i<6)from .inr ⟨h1,h2⟩)]
    (repeat ((first|apply fC (cf rfl)|apply jF rfl rfl rfl);simp+decide only[AB,u0,u6,e1,e2,e3,S];rfl))
    exact fX gW
   have e3:decide (gu i<6)=false:=my Dh;rw[my (aa:¬(i=0\/(i<zN.length/\i<6)))]
   (repeat ((first|apply fC (cf rfl)|apply jF rfl rfl rfl);simp+decide only[AB,u0,u6,e1,e2,e3,S];rfl))
   exact fX gW
  have e2:decide (gu i<gu zN.length)=false:=my (λ h=>h1 (UX.1 h));rw[my (aa:¬(i=0\/(i<zN.length/\i<6)))]
  (repeat ((first|apply fC (cf rfl)|apply jF rfl rfl rfl);simp+decide only[AB,u0,u6,e1,e2,S];rfl))
  exact fX gW
 intro T4 bJ k4;obtain⟨v0,v1,v4,v5,v6⟩:=nR k4 u0 u1 u4 u5 u6;refine eX (by rw[fQ,bJ]) (λ hc=>?_) (λ hc=>?_)
 .have hc:=jL hc;have bh:i<6:=aa;refine fZ (aB (gR ?_));have bi:(au.agg [.int .u8 0,.int .u8 0]).cells=[.int .u8 0,.int .u8 0]:=rfl;obtain⟨Ka,cj,ga,fa,oa,cv⟩:=mg gk [.int .u8 0,.int .u8 0] true 1;obtain⟨Kb,w1,ob,fb,nb,gb⟩:=nK ga oa (off:=0) (new:=[.int .u8 0,.int .u8 0]) aw Q;have s1:dD af Ka 83 (.ptr K.ae 0) (.agg [.int .u8 0,.int .u8 0])=O Kb:=by rw[alc];exact w1
  refine aB (aS (H':=Kb) (λ T=>ai T 7=.ptr K.ae 0) (xK @aww @ap9 bi cj s1) ?_);intro T5 t7 k5;obtain⟨w0,bD,w4,w5,w6⟩:=nR k5 v0 v1 v4 v5 v6;have cm:Fr (O (H.ae+1)) H2 Kb:=(Z.Nu g1 fa (λ f e=>bk)).Nu g1 fb (λ f e=>by cases e;exact Z.ae);refine aB (bB.mono (Rqq:=λ e T K3=>e=.normal/\∃F D:U,P8 (F,D)/\qJ K3 K.ae (Sx K.ae (.int .u8 F) (.int .u8 D))/\Fr (O K.ae) Kb K3/\Good K3/\ai T 0=sN/\ai T 1=sE/\ai T 4=.ptr H.ae 0/\ai T 5=.ptr (H.ae+1) 0/\ai T 6=aW i/\ai T 7=.ptr K.ae 0) ?_ ?_)
  .refine aB (aS (H':=Kb) (λ T=>ai T 30=.bool (decide (gu i<gu zN.length))) (jG w0 w6 S) ?_);intro T6 bI k6;obtain⟨F,D,x4,x5,x6,x7⟩:=Aw k6 w0 bD w4 w5 w6 t7;refine eX (by rw[fQ,bI]) (λ ag=>?_) (λ cA=>?_)
   .have ag:i<zN.length:=UX.1 (jL ag);obtain⟨p,off,q1,q2⟩:=alD (bs cm (λ f e=>by cases e;omega)) hN ag;obtain⟨Kc,z1,z2,z3,z4,z5⟩:=nK gb ob (off:=0) (new:=[.int .u8 zN[i].1,.int .u8 zN[i].2]) (by simp[eV]) Q;have s2:dD af Kb 83 (.ptr K.ae 0) (.agg [.int .u8 zN[i].1,.int .u8 zN[i].2])=O Kc:=by rw[alc];exact z1
    refine aS (H':=Kc) (λ T=>True) (AQ F x6 x7 q1 (ayB q2) s2) ?_;intro T7 _ k7;exact⟨Q,zN[i].1,zN[i].2,pN _ (qP ag),z2,z3,z5,aL k7 F,aL k7 D,aL k7 x4,aL k7 x5,aL k7 x6,aL k7 x7⟩
   exact fZ ⟨Q,0,0,by unfold P8;omega,ob,Fr.refl _ _,gb,F,D,x4,x5,x6,x7⟩
  rintro e T8 K3 ⟨rfl,F,D,J,o7,bx,g3,y0,y1,y4,y5,y6,y7⟩
  show bB af ng aae 124 _ T8 K3 _;have cw:K.ae+1<=K3.ae:=by have:=bx.ae;have:=fb.ae;omega
  have N:∀{t:bj},cY af .add t (aW i) (ao 1)=O (aW (i+1)):=uZ aa;have aD:aQ K3.ah.get K.ae (0+0) 1=O [.int .u8 F]:=o7.rd aw;have a3:aQ K3.ah.get K.ae (0+1) 1=O [.int .u8 D]:=o7.rd aw;obtain⟨r1,r2,r3⟩:=Ic (P:=af) (t:=3) (k:=.i64) (a:=F) (b:=gu (i+1)) J.1.1 Dh;obtain⟨q1,q2,q3⟩:=alr (P:=af) (t:=5) (a:=F) (b:=16) J.1 cB;obtain⟨q4,_,_⟩:=Ic (P:=af) (t:=5) (k:=.u8) (a:=F.tdiv 16) (b:=4) q2 cB;have hk:sP (F.tmod (gu (i+1))- 1):=by have a4:F.tmod (gu (i+1))<((i+1:R):U):=r3;have a5:=r2;generalize F.tmod (gu (i+1))=tt at a5 a4⊢;unfold sP;omega
  have sb:∀{t:bj},cY af .sub t (ao (F.tmod (gu (i+1)))) (ao 1)=O (ao (F.tmod (gu (i+1))- 1)):=aH8 hk;have a9:i<sA.length:=bh;have Fj:kU af K3.ah.get 9 (.str [65,66,67,68,69,70]) (O (aW i)) (O (aW (i+1)))=O (.str [sA[i]]):=ab6 (s:=sA) a9;have bX:(au.agg [.str [],ao 0,.bool false,.aq]).cells=[.str [],ao 0,.bool false,.aq]:=rfl;obtain⟨Kd,ci,gd,fd,od,cu⟩:=mg g3 [.str [],ao 0,.bool false,.aq] true 1;obtain⟨p,hp⟩:∃p:U,p=F.tmod (gu (i+1))- 1:=⟨_,Q⟩;obtain⟨ab,cD⟩:∃ab:Bool,ab=decide ((F.tdiv 16).tmod 4=3):=⟨_,Q⟩;obtain⟨Ke,z1,oe,fe,ne,ge⟩:=nK gd od (off:=0) (new:=[.str [sA[i]],ao p,.bool ab,.aq]) aw Q;have s3:dD af Kd 49 (.ptr K3.ae 0) (.agg [.str [sA[i]],ao (F.tmod (gu (i+1))- 1),.bool (decide ((F.tdiv 16).tmod 4=3)),.aq])=O Ke:=by grind[atw]
  refine aB (Sq (H':=Ke) (λ T=>ai T 8=.ptr K3.ae 0) g3.wf aH ?_ ?_)
  ·(repeat ((first|apply Qa rfl (cf rfl)|apply RO rfl (cf rfl));simp+decide only[AB,y6,y7,N,Fj,ams,Ob aD,Pg J.1,r1,sb,q1,q4,at4,amF,bX,ci,s3];rfl))
   exact RM gW
  intro T9 t8 k9;obtain⟨e0,e1,e4,e5,e6,e7⟩:=Aw k9 y0 y1 y4 y5 y6 y7;have bc:Ke.ae=K3.ae+1:=aa;have bw:Fr X K3 Ke:=fd.jv g3 fe (λ f e=>by cases e;exact aZ _);have bS:=o7.keep bw aw;have a2:∀{fm:bA} {K6:aj},Fr fm Ke K6->fm≠O K.ae->aQ K6.ah.get K.ae (0+1) 1=O [.int .u8 D]:=λ fr bc=>(bS.keep fr (λ e=>bc e.symm)).rd aw
  refine aB (bB.mono (Rqq:=λ e T K6=>e=.normal/\∃(av:au) (am:B wh),qJ K6 K3.ae (rw4 K3.ae (.str [sA[i]]) (ao p) (.bool ab) av)/\(m9 wG).rel K6.ah.get (λ f=>f<Ke.ae) am [av]/\am.length<=1/\(∀a∈am,Xo i a)/\Fr (O K3.ae) Ke K6/\Good K6/\ai T 0=sN/\ai T 1=sE/\ai T 4=.ptr H.ae 0/\ai T 5=.ptr (H.ae+1) 0/\ai T 6=aW i/\ai T 8=.ptr K3.ae 0) ?_ ?_)
  .have aJ:i<sU.length:=bh;have bM:kU af Ke.ah.get 9 (.str [117,118,119,120,121,122]) (O (aW i)) (O (aW (i+1)))=O (.str [sU[i]]):=ab6 (s:=sU) aJ;refine aB (aS (H':=Ke) (λ T=>ai T 9=.str [sU[i]]) (jG e6 @N bM) ?_);intro Ta t9 ka;obtain⟨h0,h1,h4,h5,h6,h7,h8⟩:=Dn ka e0 e1 e4 e5 e6 e7 t8;obtain⟨q5,q6,q7⟩:=Ic (P:=af) (t:=5) (k:=.u8) (a:=D) (b:=4) J.2.1 cB;have aY:=a2 (Fr.refl X Ke) aw;refine aB (aS (H':=Ke) (λ T=>ai T 58=.int .u8 (D.tmod 4)) (nP h7 @XM (Ob aY) q5) ?_);intro Tb aV kb;obtain⟨i0,i1,i4,i5,i6,i7,i8,i9⟩:=aoZ kb h0 h1 h4 h5 h6 h7 h8 t9;refine gR (aB (aS (H':=Ke) (λ T=>ai T 59=.bool (decide (D.tmod 4=1))) aV ?_));intro Tc bH kc;obtain⟨j0,j1,j4,j5,j6,j7,j8,j9⟩:=aoZ kc i0 i1 i4 i5 i6 i7 i8 i9;have bW:=aL kc aV;refine eX (by rw[fQ,bH]) (λ h1=>?_) (λ h1=>?_)
   .obtain⟨m1,m2,m3⟩:=alr (P:=af) (t:=5) (a:=D) (b:=4) J.2 cB;obtain⟨m4,m5,m6⟩:=Ic (P:=af) (t:=3) (k:=.i64) (a:=D.tdiv 4) (b:=9) m2 cB;have m7:∀{t:bj},cY af .add t (ao 3) (ao ((D.tdiv 4).tmod 9))=O (ao (3+(D.tdiv 4).tmod 9)):=aJj xT;obtain⟨hi,cb⟩:∃hi:U,hi=3+(D.tdiv 4).tmod 9:=⟨_,Q⟩;rw[<-cb]at m7;obtain⟨Kf,aO,gf,ff,of,_⟩:=mg ge [.str [sU[i]],ao (-3),ao hi,.aq] true 4;obtain⟨Kg,z5,og,fg,bU,gg⟩:=nK gf (oe.keep ff aw) (off:=3) (new:=[.slice Ke.ae 0 1 X]) (by simp[eV]) Q;have s4:dD af Kf 47 (.ptr K3.ae (0+3)) (.slice Ke.ae 0 1 X)=O Kg:=by rw[ajn];exact z5
    refine aS (H':=Kg) (λ T=>True) (mN j7 j8 j9 @XM (Ob aY) m1 (Pg ⟨m2,m3⟩) (zA m4 @m7 @aAI @al8 aO @RT s4)) ?_;intro Td _ kd;refine⟨Q,.slice Ke.ae 0 1 X,[([sU[i]],-3,hi,[])],og,?_,aZ _,λ a ha=>?_,ff.akV fg,gg,aL kd j0,aL kd j1,aL kd j4,aL kd j5,aL kd j6,aL kd j8⟩;.exact anY (fg.row _ _ of.row gD) Q Q aw aAl
    rw[cJ]at ha;subst ha;exact⟨_,eg aJ,.inl ⟨hi,aa,aa,Q⟩⟩
   refine aB (aS (H':=Ke) (λ T=>ai T 71=.bool (decide (D.tmod 4=2))) bW ?_);intro Td bF kd;obtain⟨l0,l1,l4,l5,l6,l8,l9⟩:=Dn kd j0 j1 j4 j5 j6 j8 j9;refine eX (by rw[fQ,bF]) (λ h2=>?_) (λ h2=>?_)
   .obtain⟨Kf,aO,gf,ff,of,ct⟩:=mg ge [.str [111,102,102],.str [111,110]] true 1;obtain⟨co,bp,cl,aT,bR,_⟩:=mg gf [.str [sU[i]],ao 0,ao 1,.slice Ke.ae 0 2 X] true 4;obtain⟨Kg,z5,og,fg,bU,gg⟩:=nK cl ((oe.keep ff aw).keep aT aw) (off:=3) (new:=[.slice Kf.ae 0 1 X]) (by simp[eV]) Q;have s4:dD af co 47 (.ptr K3.ae (0+3)) (.slice Kf.ae 0 1 X)=O Kg:=by rw[ajn];exact z5
    refine aS (H':=Kg) (λ T=>True) (mN l8 l9 @avj aO @aAo @al8 bp (iy @RT s4)) ?_;intro Tf _ kf;refine⟨Q,.slice Kf.ae 0 1 X,[([sU[i]],0,1,[[111,102,102],[111,110]])],og,?_,aZ _,λ a ha=>?_,(ff.trans aT).akV fg,gg,aL kf l0,aL kf l1,aL kf l4,aL kf l5,aL kf l6,aL kf l8⟩;.refine anY (fg.row _ _ bR.row gD) Q Q gD (akl (awr (fg.row _ _ (aT.row _ _ of.row aw) gD) Q Q aw))
    rw[cJ]at ha;subst ha;exact⟨_,eg aJ,.inr Q⟩
   exact fZ ⟨Q,.aq,[],oe,agH _ _ _,kG _,λ a ha=>bk,Fr.refl _ _,ge,l0,l1,l4,l5,l6,l8⟩
  rintro e Th K6 ⟨rfl,av,am,o8,bm,cg,ce,cn,g6,m0,m1,m4,m5,m6,m8⟩
  show bB af ng aae 124 _ Th K6 _;have ag:=mO.lt gk hL;have cE:H2.ae<=K.ae:=Z.ae;have bv:Fr X K Ke:=(((fa.jv gk fb (λ f e=>by cases e;exact aZ _)).jv gk bx (λ f e=>by cases e;exact aZ _)).trans fd).jv gk fe (λ f e=>bP);have ar:Fr X K K6:=bv.jv gk cn (λ f e=>by cases e;omega);have a8:=aG.keep ar aw;have aC:aQ K6.ah.get (H.ae+1) (0+0) 1=O [v]:=a8.rd aw;have bQ:aQ K6.ah.get K3.ae 0 4=O [.str [sA[i]],ao p,.bool ab,av]:=o8.rd aw;have cC:av.dm=true:=by grind[aeI]
  have gh:=jb g6 [.str [sA[i]],ao p,.bool ab,av] true 4;have fh:=iv g6 [.str [sA[i]],ao p,.bool ab,av] true 4;have an:=ab0 (H:=K6) (cells:=[.str [sA[i]],ao p,.bool ab,av]) (sz:=4) Q;generalize ay:alloc K6 [.str [sA[i]],ao p,.bool ab,av] true 4=Kh at*;have cr:Kh.ae=K6.ae+1:=by rw[<-ay];rfl
  have ch:mO Gr Kh H2.ae v y fl:=(hL.keep ar (λ f e=>bk)).keep fh (λ f e=>bk);have aA:Fr X K Kh:=ar.trans fh;have bb:Gr.rel Kh.ah.get (λ f=>f<H2.ae\/fl=O f) ([sA[i]],p,ab,am) [.str [sA[i]],ao p,.bool ab,av]:=by refine aBh ((m9 wG).nQ fh ((m9 wG).sub (λ f hf=>?_) bm));grind
  obtain⟨v',Ki,aR,aM,bo,ap,gi⟩:=mO.push (bytes:=Tryz.t49.bytes) gh ch cB bb (by have:Tryz.t49.bytes<=1000:=cB;have h2:(y.length+1)*Tryz.t49.bytes<=7*1000:=UL aa this;unfold lg;omega) mE (by have:=aA.ae;omega)
  have ad:=azi (H:=Kh) (s:=v) (x:=.slice K6.ae 0 1 X) (n:=1) Q an;rw[show gM Kh 4 Tryz.t49.bytes v 1 [.str [sA[i]],ao p,.bool ab,av]=O (v',Ki)from aM]at ad;have ac:∀f,fl=O f->H2.ae<=f:=hL.1;have aE:=(a8.keep fh aw).keep ap (λ e=>absurd (show H2.ae<=H.ae+1 from ac _ e.symm) aa);have a7:=bo.one;obtain⟨Kj,z7,oj,fj,nj,gj⟩:=nK gi aE (off:=0) (new:=[v']) aw (by simp[a7]);have s7:dD af Ki 31 (.ptr (H.ae+1) (0+0)) v'=O Kj:=by rw[aFD a7];exact z7
  refine aS (H':=Kj) (λ T=>True) (mN m5 m8 @HR (IT aC) (azO bQ) @axw ay (iy ad s7)) ?_;intro Ti _ ki;obtain⟨n0,n1,n4,n5,n6⟩:=nR ki m0 m1 m4 m5 m6;show bB af ng aae 124 _ Ti Kj _;refine aS (H':=Kj) (λ T=>ai T 6=aW (i+1)) (iy n6 @N) ?_;intro Tj bG kj;refine⟨m- 1,aa,i+1,v',y++[([sA[i]],p,ab,am)],aR,aa,by simp[aK],λ j x hx=>?_,bo.keep fj (λ f e=>bP),oj,?_,gj,aL kj n0,aL kj n1,aL kj n4,aL kj n5,bG⟩
  .by_cases hj:j<y.length;.grind
   rw[uH aa]at hx;have ca:j-y.length=0:=by grind
   rw[ca]at hx;cases hx;have b8:j=i:=aa;subst b8;have a4:F.tmod (gu (j+1))<((j+1:R):U):=r3;have a5:=r2;refine⟨_,eg a9,Q,?_,?_,cg,ce⟩;.grind
   grind
  have h1:Fr (O (H.ae+1)) H2 Kh:=Z.Nu g1 aA (λ f e=>bk);have h2:Fr (O (H.ae+1)) H2 Ki:=h1.Nu g1 ap ac;exact h2.trans fj
 .have hc:=tM hc;have cz:1<=i:=aa;refine mY ?_;show bB af ng aae 124 _ T4 K _;refine aB (aB (aS (H':=K) (λ T=>ai T 10=aW 0) v0 ?_));intro T5 bL k5;obtain⟨w1,w4,w5⟩:=pB k5 v1 v4 v5;have ak:dh af 22 sE=O (ao (gu Y.length)):=by grind[tB,adq,HY]
  have ag:=mO.lt gk hL;have cF:H.ae+1<K.ae:=by have:=(gk.wf _ _ aG.row).1;omega
  refine gR (pq (λ mm T K'=>∃(j:R) (w:au) (A:B I9) (fl2:bA),mm+j=5/\A.length=j/\(∀(k:R) e,A[k]? =O e->Tn i k e)/\mO KU K' K.ae w A fl2/\qJ K' (H.ae+1) (Sx (H.ae+1) v w)/\Fr (O (H.ae+1)) K K'/\Good K'/\ai T 1=sE/\ai T 4=.ptr H.ae 0/\ai T 5=.ptr (H.ae+1) 0/\ai T 10=aW j) ?_ 5 _ _ ⟨0,.aq,[],X,Q,Q,λ k e h=>bk,mO.nil _ _ _,aG,Fr.refl _ _,gk,w1,w4,w5,bL⟩)
  rintro mm T K' ⟨j,w,A,fl2,cx,cd,cc,az,ax,al,g',D,x4,x5,wL⟩
  have aN:mO Gr K' H2.ae v y fl:=hL.keep al (λ f e=>by cases e;omega);refine aB (aB (iK (H':=K') (λ T=>ai T 91=.bool (decide (j<Y.length/\j<5))) ?_ ?_))
  .by_cases h1:j<Y.length
   .have e2:decide (gu j<gu Y.length)=true:=jR (UX.2 h1);by_cases h2:j<5
    .have e3:decide (gu j<5)=true:=jR Dh;rw[jR (show j<Y.length/\j<5 from⟨h1,h2⟩)]
     (repeat ((first|apply fC (cf rfl)|apply jF rfl rfl rfl);simp+decide only[AB,D,wL,e2,e3,ak];rfl))
     exact fX gW
    have e3:decide (gu j<5)=false:=my Dh;rw[my (aa:¬(j<Y.length/\j<5))]
    (repeat ((first|apply fC (cf rfl)|apply jF rfl rfl rfl);simp+decide only[AB,D,wL,e2,e3,ak];rfl))
    exact fX gW
   have e2:decide (gu j<gu Y.length)=false:=my (λ h=>h1 (UX.1 h));rw[my (aa:¬(j<Y.length/\j<5))]
   (repeat ((first|apply fC (cf rfl)|apply jF rfl rfl rfl);simp+decide only[AB,D,wL,e2,ak];rfl))
   exact fX gW
  intro T6 bE k6;obtain⟨y1,y4,y5,bC⟩:=xu k6 D x4 x5 wL;refine eX (by rw[fQ,bE]) (λ hc=>?_) (λ hc=>?_)
  .obtain⟨bf,b9⟩:=jL hc;have aD:aQ K'.ah.get (H.ae+1) (0+0) 1=O [v]:=ax.rd aw;have a3:aQ K'.ah.get (H.ae+1) (0+1) 1=O [w]:=ax.rd aw;have b5:dh af 31 v=O (aW i):=by obtain⟨_,cs,h1,_⟩:=aN;have:=h1.read.dh Tryz.underlying31;rw[aK]at this;exact this
   refine fZ (aB (gR (aB (aS (H':=K') (λ T=>ai T 11=aW i) (nP y5 @HR (IT aD) b5) ?_))));intro T7 bK k7;obtain⟨z1,z4,z5,aU⟩:=xu k7 y1 y4 y5 bC;have N:∀{t:bj},cY af .add t (aW j) (ao 1)=O (aW (j+1)):=uZ aa;have ba:j<xr.length:=b9;have M0:kU af K'.ah.get 9 (.str [101,102,103,104,105]) (O (aW j)) (O (aW (j+1)))=O (.str [xr[j]]):=ab6 (s:=xr) ba;have bq:bO I K'.ah.get:=λ u r e=>by have hu:=br u r e;refine al.row u r hu ?_;intro e2;have h3:r.aI=H.ae+1:=tO e2;have:=(g.wf u r (hI u r e)).2;omega
   obtain⟨pp,off,q1,q2⟩:=alD bq hE bf;have J:=pE _ (qP bf);have bN:aQ K'.ah.get pp (off+0) 1=O [.int .u8 Y[j].1]:=acn q2 (c:=0) (m:=1) cB;have zQ:aQ K'.ah.get pp (off+1) 1=O [.int .u8 Y[j].2]:=acn q2 (c:=1) (m:=1) cB;obtain⟨r1,r2,r3⟩:=Ic (P:=af) (t:=3) (k:=.i64) (a:=Y[j].1) (b:=gu i) J.1.1 Dh;obtain⟨r4,r5,r6⟩:=Ic (P:=af) (t:=3) (k:=.i64) (a:=Y[j].2) (b:=gu i) J.2.1 Dh;obtain⟨pf,bZ⟩:∃p:U,p=Y[j].1.tmod (gu i):=⟨_,Q⟩;obtain⟨pt,bY⟩:∃p:U,p=Y[j].2.tmod (gu i):=⟨_,Q⟩;rw[<-bZ]at r1 r2 r3;rw[<-bY]at r4 r5 r6;have gh:=jb g' [.str [xr[j]],ao pf,ao pt,ao 0,ao (-1),ao 0,ao (-1)] true 7;have fh:=iv g' [.str [xr[j]],ao pf,ao pt,ao 0,ao (-1),ao 0,ao (-1)] true 7;have an:=ab0 (H:=K') (cells:=[.str [xr[j]],ao pf,ao pt,ao 0,ao (-1),ao 0,ao (-1)]) (sz:=7) Q;generalize ay:alloc K' [.str [xr[j]],ao pf,ao pt,ao 0,ao (-1),ao 0,ao (-1)] true 7=Kh at*;have ck:mO KU Kh K.ae w A fl2:=az.keep fh (λ f e=>bk);obtain⟨w',Ki,aR,aM,bu,ap,gi⟩:=mO.push (bytes:=Tryz.t87.bytes) gh ck cB (aq0 (n:=[xr[j]]) (a:=pf) (b:=pt) (c:=0) (d:= -1) (e:=0) (f:= -1)) (by have:Tryz.t87.bytes<=1000:=cB;have h2:(A.length+1)*Tryz.t87.bytes<=7*1000:=UL aa this;unfold lg;omega) mE (by have:=al.ae;have:=fh.ae;omega)
   have ad:=aDa (H:=Kh) (s:=w) (x:=.slice K'.ae 0 1 X) (n:=1) Q an;rw[show gM Kh 7 Tryz.t87.bytes w 1 [.str [xr[j]],ao pf,ao pt,ao 0,ao (-1),ao 0,ao (-1)]=O (w',Ki)from aM]at ad;have ac:∀f,fl2=O f->K.ae<=f:=az.1;have aE:=(ax.keep fh aw).keep ap (λ e=>absurd (show K.ae<=H.ae+1 from ac _ e.symm) aa);have a6:=bu.one;obtain⟨Kj,z7,oj,fj,nj,gj⟩:=nK gi aE (off:=1) (new:=[w']) aw (by simp[a6]);have s7:dD af Ki 32 (.ptr (H.ae+1) (0+1)) w'=O Kj:=by rw[at8 a6];exact z7
   refine Sq (H':=Kj) (λ T=>True) g'.wf aH ?_ ?_
   ·(repeat ((first|apply Qa rfl (cf rfl)|apply RO rfl (cf rfl));simp+decide only[AB,z1,z5,aU,bK,aH5,aJ5 a3,N,M0,q1,ams,XM,aaH (v:=pp) (off:=off) (i:=0) cB,Ob bN,Ob zQ,Pg J.1,Pg J.2,r1,r4,atY,axU,ay,ad,s7];rfl))
    exact RM sp
   intro T8 _ k8;have bV:=aL k8 aU;show bB af ng aae 124 _ T8 Kj _;refine aS (H':=Kj) (λ T=>ai T 10=aW (j+1)) (iy bV @N) ?_;intro T9 aX k9;refine⟨mm- 1,aa,j+1,w',A++[([xr[j]],pf,pt,0,-1,0,-1)],aR,aa,by simp[cd],λ kk e he=>?_,bu.keep fj (λ f e=>bP),oj,((al.Sv fh).Nu gk ap ac).trans fj,gj,aL k9 (aL k8 z1),aL k9 (aL k8 z4),aL k9 (aL k8 z5),aX⟩;by_cases cy:kk<A.length;.grind[List.getElem?_append_left]
   rw[uH aa]at he;have b7:kk-A.length=0:=by grind[aa3,List.length_cons,List.length_nil]
   rw[b7]at he;cases he;have b6:kk=j:=aa;subst b6;exact⟨_,eg ba,Q,⟨r2,r3⟩,⟨r5,r6⟩,Q⟩
  refine mY ?_;show bB af ng aae 124 _ T6 K' _;have bT:qJ K' H.ae (Sx H.ae .aq .aq):=(o4.keep Z aw).keep al bP;have aC:aQ K'.ah.get (H.ae+1) 0 2=O [v,w]:=ax.rd aw;obtain⟨Kz,z1,oz,fz,nz,gz⟩:=nK g' bT (off:=0) (new:=[v,w]) aw (by simp[aN.one,az.one]);have s8:dD af K' 34 (.ptr H.ae 0) (.agg [v,w])=O Kz:=by rw[azc];exact z1
  refine aB (aS (H':=Kz) (λ T=>ai T 4=.ptr H.ae 0) (nP y4 y5 (Ii aC) s8) ?_);intro T7 cp _;have cq:aQ Kz.ah.get H.ae 0 2=O [v,w]:=oz.rd (by simp[eV]);refine iZ ⟨aw,[.agg [v,w]],?_,?_⟩;.show eG af Kz.ah.get T7 [.cell 4 34]=_;grind[eG,Ii]
  have bn:Fr X H K':=by have h1:Fr X H K:=bz.jv g Z (λ f e=>by cases e;omega);exact h1.jv g al (λ f e=>by cases e;omega)
  refine⟨bn.jv g fz (λ f e=>by cases e;exact aZ _),gz,v,w,y,A,fl,K.ae,Q,?_,?_,ag,by have:=Z.ae;omega,aa,aa,aa,b2,λ k e he=>by rw[aK];exact cc k e he⟩;.rw[<-b3];exact aN.keep fz (λ f e=>bP)
  exact(az.keep fz (λ f e=>bP)).rel
end
section
variable{TN TE:aP}
def afv:∀{i:R} {c:UInt8},sA[i]? =O c->[c]∈rJ/\(c.toNat:U)=i+65:=λ {i c} h=>by
 iterate 6 (rcases i with _|i;·cases h;exact⟨cB,aw⟩)
 cases h
def amS:∀{i:R} {c:UInt8},sU[i]? =O c->[c]∈rJ/\(c.toNat:U)=i+117:=λ {i c} h=>by
 iterate 6 (rcases i with _|i;·cases h;exact⟨cB,aw⟩)
 cases h
def aeq:∀{i:R} {c:UInt8},xr[i]? =O c->[c]∈rJ/\(c.toNat:U)=i+101:=λ {i c} h=>by
 iterate 5 (rcases i with _|i;·cases h;exact⟨cB,aw⟩)
 cases h
theorem ap5{j:R}{s:jo}(h:(j=0/\s=[111,102,102])\/(j=1/\s=[111,110])):de (aC TN TE) 5 [] j [.sc (.str s)]:=by
 refine(iO iB Q).2 ⟨Q,[SV.z,⟨j,W,[],[]⟩,⟨0,W,s,[]⟩],Q,aZ _,Q,λ f u=>?_⟩;simp at u;rcases u with rfl|rfl
 .show s∈rJ;rcases h with⟨_,rfl⟩|⟨_,rfl⟩<;>decide
 rcases h with⟨rfl,rfl⟩|⟨rfl,rfl⟩
 .exact .inl ⟨Q,Q⟩
 exact .inr ⟨Q,Q⟩
theorem azK{a:wh}(h:Xo i a):de (aC TN TE) 6 [] j (wC a):=by
 obtain⟨c,J,h⟩:=h;have A:=(amS J).1
 have y:∀(s:jo) (lo u:U) (l:qF),s∈rJ-> -3<=lo->lo<=0->0<=u->u<=20->lo<=u->l.length<=2->(∀(k:R) t,l[k]? =O t->(k=0/\t=[111,102,102])\/(k=1/\t=[111,110]))->(1<=l.length->lo=0/\u+1=l.length)->de (aC TN TE) 6 [] j _:=λ s lo u l K g2 g3 g4 g5 Z Y S P=>by
  refine(iO iB (nm:=6) Q).2 ⟨Q,[SV.z,⟨j,W,[],[]⟩,⟨0,W,s,[]⟩,nI lo,nI u,⟨0,W,[],l.map λ t=>[.sc (.str t)]⟩,nI l.length],Q,aZ _,?_,λ f D=>?_⟩;.show _=[ak.sc (.str s),.sc _,.sc _,.sl (l.map _) X];rw[fJ,fJ]
  simp at D;rcases D with rfl|rfl|rfl|rfl|rfl|rfl|rfl|rfl|rfl|rfl
  .exact K
  .show(0:U)<=lo+3;omega
  .show lo<=(0:U)+0;omega
  .show(0:U)<=u+0;omega
  .show u<=(0:U)+20;omega
  .show lo<=u+0;omega
  .refine⟨by show((l.map _).length:U)=(l.length:U)+0;rw[br];omega,λ k e F=>?_⟩;have F:(l.map _)[k]? =O e:=F;grind[ap5]
  .show(0:U)<=(l.length:U)+0;omega
  .show(l.length:U)<=(0:U)+2;omega
  show Qy (lo+0) (u+0) ((l.length:U)+0);intro h1;omega
 rcases h with⟨u,N,M,rfl⟩|rfl
 .exact y [c] (-3) u [] A aa aa aa aa aa (kG _) (λ k t h=>bk) (λ h=>absurd h aw)
 refine y [c] 0 1 _ A aa aa aa aa aa aw (λ k t h=>?_) (λ h=>aw);grind
def JG(x:zu):zu:=(x.1,x.2.1,W,x.2.2.2)
theorem atu{x:zu}(h:PC i x):de (aC TN TE) 7 [] i (zt (JG x)):=by
 obtain⟨n,p,b,l⟩:=x;obtain⟨c,F,h1,h2,M,K,h5⟩:=h;simp only at h1 h2 M K h5;subst h1;refine(iO iB Q).2 ⟨Q,[SV.z,⟨i,W,[],[]⟩,⟨0,W,[c],[]⟩,nI p,⟨0,W,[],l.map wC⟩,nI l.length],Q,aZ _,?_,λ f D=>?_⟩;.show _=[ak.sc _,.sc _,.sc _,.sl _ X];rw[fJ];rfl
 simp at D;rcases D with rfl|rfl|rfl|rfl|rfl|rfl|rfl|rfl
 .exact(afv F).1
 .exact⟨c,Q,(afv F).2⟩
 .show 0<=p+1;omega
 .show p<=i+(-1);omega
 .refine⟨by show((l.map wC).length:U)=l.length+0;rw[br];omega,λ k e u=>?_⟩;have u:(l.map wC)[k]? =O e:=u;rw[mu]at u;cases y:l[k]?;.rw[y]at u;cases u
  rename_i t;rw[y]at u;cases u;exact azK (h5 t (iD y))
 .show 0<=(l.length:U)+0;omega
 .show l.length<=(0:U)+1;omega
 show Gm (l.map wC) (i+0);intro k e u;rw[mu]at u;cases y:l[k]?;.rw[y]at u;cases u
 rename_i t;rw[y]at u;cases u;obtain⟨J,A,h⟩:=h5 t (iD y);rcases h with⟨N,_,_,rfl⟩|rfl<;>exact⟨[J],_,Q,⟨J,Q,by have:=(amS A).2;omega⟩⟩
theorem aBK{n:R}{x:I9}(h:Tn n i x):de (aC TN TE) 8 [(n:U)] i (LX x):=by
 obtain⟨nm,f,t,r⟩:=x;obtain⟨c,y,h1,h2,D,A⟩:=h;simp at h1 h2 D A;subst h1;subst A;refine(iO iB Q).2 ⟨Q,[SV.z,nI n,nI i,⟨0,W,[c],[]⟩,nI f,nI t],Q,aZ _,?_,λ g u=>?_⟩;.show _=[ak.sc _,.sc _,.sc _,.sc _,.sc _,.sc _,.sc _];rw[fJ,fJ];rfl
 simp at u;rcases u with rfl|rfl|rfl|rfl|rfl|rfl
 .exact(aeq y).1
 .exact⟨c,Q,(aeq y).2⟩
 .show 0<=f+0;omega
 .show f<=n+(-1);omega
 .show 0<=t+0;omega
 show t<=n+(-1);omega
theorem arp{u:B zu}{y:B I9}(l1:1<=u.length)(l6:u.length<=6)(e5:y.length<=5)(A:∀i x,u[i]? =O x->PC i x)(D:∀(k:R) e,y[k]? =O e->Tn u.length k e):
 qU (u.map λ x=>zt (JG x)) (y.map LX):=by
 refine⟨λ i e F=>?_,λ i e F=>?_,by rw[br];exact l1,by rw[br];exact l6,by rw[br];exact e5⟩;.grind[atu]
 grind[aBK]
end
section
variable{TN TE:aP}
abbrev c8(v:U):be:=[.sc (.int .u8 v)]
abbrev DM(p:U×U×U):be:=[.sc (.int .u8 p.1),.sc (.int .u8 p.2.1),.sc (.int .u8 p.2.2)]
def tj(v:U):Prop:=0<=v/\v<=255
def LG(p:U×U×U):Prop:=tj p.1/\tj p.2.1/\tj p.2.2
def lS(l:aP):SV:=⟨0,W,[],l⟩
def akJ{v:U}(h:tj v):de (aC TN TE) 2 [] j (c8 v):=by
 refine(iO iB Q).2 ⟨Q,[SV.z,nI j,nI v],Q,aZ _,?_,λ f u=>?_⟩;.show _=[ak.sc (.int .u8 (v+0))];rw[fJ]
 obtain⟨h1⟩:=h;simp at u;rcases u with rfl|rfl
 .show 0<=v+0;omega
 show v<=0+255;omega
def aCM{p:U×U×U}(h:LG p):de (aC TN TE) 4 [] j (DM p):=by
 obtain⟨a,b,c⟩:=p;obtain⟨⟨h1,h2⟩,⟨D,A⟩,h5,y⟩:=h;simp at h1 h2 D A h5 y;refine(iO iB Q).2 ⟨Q,[SV.z,nI j,nI a,nI b,nI c],Q,aZ _,?_,λ f u=>?_⟩;.show _=[ak.sc (.int .u8 (a+0)),.sc (.int .u8 (b+0)),.sc (.int .u8 (c+0))];simp
 simp at u;rcases u with rfl|rfl|rfl|rfl|rfl|rfl
 .show 0<=a+0;omega
 .show a<=0+255;omega
 .show 0<=b+0;omega
 .show b<=0+255;omega
 .show 0<=c+0;omega
 show c<=0+255;omega
theorem get_map{α:Type}{c:α->be}{l:B α}(h:(l.map c)[i]? =O e):∃x,l[i]? =O x/\x∈l/\e=c x:=by grind
def atk:(128,X,9,Wh)∈lf:=iD (i:=128) Q
def aI9:(131,X,12,abU)∈lf:=iD (i:=131) Q
def ayD:(138,X,11,Q6)∈lf:=iD (i:=138) Q
def aqG:(165,X,13,Z5)∈lf:=iD (i:=165) Q
def aEG:(167,X,14,ace)∈lf:=iD (i:=167) Q
structure tz (tn te gN gE:aP):Prop where
 n:∀(k:R) e,gN[k]? =some e->de (aC tn te) 10 [(tn.length:U)] k e
 e:∀(k:R) e,gE[k]? =some e->de (aC tn te) 12 [(te.length:U)+ -1,0,(gN.length:U)+ -1] k e
 g:CG tn te gN gE
theorem aGN{tn:aP}(D:qU tn te){A:aK}{y:Sn}(h1:∀v∈A,tj v)(h2:∀p∈y,LG p)(l1:A.length<=3)(l2:y.length<=2):
 ∃M N,(∀S,VW js ml 9 [.agg [.sl tn X,.sl te X],.sl (A.map c8) X,.sl (y.map DM) X,eI 3] S=O (.agg [.sl M X,.sl N X],S,W))/\tz tn te M N/\M.length<=3/\N.length<=2:=by
 obtain⟨o,ho,u,b1,b2,b3,F⟩:=GG (TN:=tn) (TE:=te) _ atk (λ k=>match k with|1=>lS tn|2=>lS te|3=>lS (A.map c8)|4=>lS (y.map DM)|5=>nI tn.length|6=>nI te.length|7=>nI A.length|8=>nI y.length|_=>SV.z) rfl (λ i Z=>by
  iterate 8 (rcases i with _|i;·first|rfl|cases Z)
  cases Z) (λ f hf=>by
  simp only[Wh,cg,lr,lQ]at hf;rcases hf with rfl|rfl|rfl|rfl|rfl|rfl|rfl|rfl|rfl|rfl|rfl|rfl|rfl
  .exact⟨(fJ _).symm,D.n⟩
  .exact⟨(fJ _).symm,λ i x hx=>by have:=D.e i x hx;grind[cM,nI]⟩
  .show(0:U)<=(tn.length:U)+(-1);have:=D.l1;omega
  .show(tn.length:U)<=0+6;have:=D.l6;omega
  .show(0:U)<=(te.length:U)+0;omega
  .show(te.length:U)<=0+5;have:=D.e5;omega
  .exact⟨rfl,rfl⟩
  .refine⟨by show((A.map c8).length:U)=(A.length:U)+0;rw[br];omega,λ i x hx=>?_⟩;obtain⟨v,_,J,rfl⟩:=get_map (c:=c8) hx;exact akJ (h1 v J)
  .refine⟨by show((y.map DM).length:U)=(y.length:U)+0;rw[br];omega,λ i x hx=>?_⟩;obtain⟨v,_,J,rfl⟩:=get_map (c:=DM) hx;exact aCM (h2 v J)
  .show(0:U)<=(A.length:U)+0;omega
  .show(A.length:U)<=0+3;omega
  .show(0:U)<=(y.length:U)+0;omega
  show(y.length:U)<=0+2;omega) (λ m lo e=>bk)
 obtain rfl:=cJ.1 ho;have e0:(u 0).i=0:=by rw[<-b1 0 (by decide)];rfl
 have e5:(u 5).i=tn.length:=by rw[<-b1 5 (by decide)];rfl
 have e6:(u 6).i=te.length:=by rw[<-b1 6 (by decide)];rfl
 have Y:cL (aC tn te) u (.sl 9 11 0 10 [(5,0)]):=F _ aw;have P:cL (aC tn te) u (.sl 10 12 0 12 [(6,(-1)),(0,0),(11,(-1))]):=F _ aw;have p5:(u 11).i<=(u 0).i+3:=F (.le 11 0 3) aw;have p7:(u 12).i<=(u 0).i+2:=F (.le 12 0 2) aw;have q1:=Y.1;have q2:=P.1;refine⟨(u 9).l,(u 10).l,λ S=>b3 S,⟨λ k e K=>?_,λ k e K=>?_,(F (.pr 117 [.s 9,.s 10]) aw)⟩,aa,aa⟩;.have:=Y.2 k e K;grind[cM]
 .have:=P.2 k e K;grind[cM]
theorem aGE{tn:aP}(F:qU tn te){gN gE:aP}(J:tz tn te gN gE)(n3:gN.length<=3)(e2:gE.length<=2){a:aK}(ha:∀v∈a,tj v)(l:a.length<=3):
 ∃hN hE iN iE,(∀S,VW js ml 12 [.agg [.sl tn X,.sl te X],.agg [.sl gN X,.sl gE X],.sl (a.map c8) X] S=O (.bp [.agg [.sl hN X,.sl hE X],.agg [.sl iN X,.sl iE X]],S,W))/\tz tn te hN hE/\nh gN hN/\nh gE hE/\gN.length<=hN.length/\hN.length<=5/\gE.length<=hE.length/\hE.length<=4/\iN.length=gN.length/\iE.length=gE.length/\(∀(k:R) e,iN[k]? =O e->de (aC tn te) 1 [] k e)/\(∀(k:R) e,iE[k]? =O e->de (aC tn te) 1 [] k e):=by
 obtain⟨o,ho,u,b1,b2,b3,y⟩:=GG (TN:=tn) (TE:=te) _ aI9 (λ k=>match k with|1=>lS tn|2=>lS te|3=>lS gN|4=>lS gE|5=>lS (a.map c8)|6=>nI tn.length|7=>nI te.length|8=>nI gN.length|9=>nI gE.length|10=>nI a.length|_=>SV.z) rfl (λ i Z=>by
  iterate 10 (rcases i with _|i;·first|rfl|cases Z)
  cases Z) (λ f hf=>by
  simp only[abU,cg,lr,lQ]at hf;rcases hf with rfl|rfl|rfl|rfl|rfl|rfl|rfl|rfl|rfl|rfl|rfl|rfl|rfl|rfl|rfl|rfl|rfl
  .exact⟨(fJ _).symm,F.n⟩
  .exact⟨(fJ _).symm,λ i x hx=>by have:=F.e i x hx;grind[cM,nI]⟩
  .show(0:U)<=(tn.length:U)+(-1);have:=F.l1;omega
  .show(tn.length:U)<=0+6;have:=F.l6;omega
  .show(0:U)<=(te.length:U)+0;omega
  .show(te.length:U)<=0+5;have:=F.e5;omega
  .exact⟨rfl,rfl⟩
  .exact⟨(fJ _).symm,λ i x hx=>by have:=J.n i x hx;grind[cM,nI]⟩
  .exact⟨(fJ _).symm,λ i x hx=>by have:=J.e i x hx;grind[cM,nI,SV.z]⟩
  .exact J.g
  .show(0:U)<=(gN.length:U)+0;omega
  .show(gN.length:U)<=0+3;omega
  .show(0:U)<=(gE.length:U)+0;omega
  .show(gE.length:U)<=0+2;omega
  .refine⟨by show((a.map c8).length:U)=(a.length:U)+0;rw[br];omega,λ i x hx=>?_⟩;obtain⟨v,_,hv,rfl⟩:=get_map (c:=c8) hx;exact akJ (ha v hv)
  .show(0:U)<=(a.length:U)+0;omega
  show(a.length:U)<=0+3;omega) (λ m lo e=>bk)
 obtain rfl:=cJ.1 ho;have e0:(u 0).i=0:=by rw[<-b1 0 (by decide)];rfl
 have e6:(u 6).i=tn.length:=by rw[<-b1 6 (by decide)];rfl
 have e7:(u 7).i=te.length:=by rw[<-b1 7 (by decide)];rfl
 have e8:(u 8).i=gN.length:=by rw[<-b1 8 (by decide)];rfl
 have e9:(u 9).i=gE.length:=by rw[<-b1 9 (by decide)];rfl
 have e3:(u 3).l=gN:=by rw[<-b1 3 (by decide)];rfl
 have e4:(u 4).l=gE:=by rw[<-b1 4 (by decide)];rfl
 have Y:cL (aC tn te) u (.sl 11 15 0 10 [(6,0)]):=y _ aw;have P:nh (u 3).l (u 11).l:=y (.pr 107 [.s 3,.s 11]) aw;have N:cL (aC tn te) u (.sl 12 16 0 12 [(7,(-1)),(0,0),(15,(-1))]):=y _ aw;have M:nh (u 4).l (u 12).l:=y (.pr 107 [.s 4,.s 12]) aw;have p5:CG tn te (u 11).l (u 12).l:=y (.pr 117 [.s 11,.s 12]) aw;have p6:(u 8).i<=(u 15).i+0:=y (.le 8 15 0) aw;have p7:(u 15).i<=(u 0).i+5:=y (.le 15 0 5) aw;have p8:(u 9).i<=(u 16).i+0:=y (.le 9 16 0) aw;have p9:(u 16).i<=(u 0).i+4:=y (.le 16 0 4) aw;have D:cL (aC tn te) u (.sl 13 8 0 1 []):=y _ aw;have A:cL (aC tn te) u (.sl 14 9 0 1 []):=y _ aw;have q1:=Y.1;have q3:=N.1;have ac:=D.1;have ab:=A.1;rw[e3]at P;rw[e4]at M;refine⟨(u 11).l,(u 12).l,(u 13).l,(u 14).l,λ S=>b3 S,⟨λ k e K=>?_,λ k e K=>?_,p5⟩,P,M,aa,aa,aa,aa,aa,aa,D.2,A.2⟩;.have:=Y.2 k e K;grind[cM]
 .have:=N.2 k e K;grind[cM]
end
section
variable{tn te gN gE:aP}
def tz.ints(u:tz tn te gN gE):∃lN:aK,gN=lN.map (λ n=>[eI n])/\∀v∈lN,0<=v/\v<(tn.length:U):=uj λ i e y=>Q9 (u.n i e y)
def tz.eds(u:tz tn te gN gE):∃lE:vm,gE=lE.map Ed.c/\∀x∈lE,(0<=x.fr/\x.fr<=(gN.length:U)+ -1)/\0<=x.to/\x.to<=(gN.length:U)+ -1:=uj λ i e y=>XD (u.e i e y)
def axS(u:tz tn te gN gE)(n3:gN.length<=3)(e2:gE.length<=2)(S:gC):VW js ml 10 [.agg [.sl gN X,.sl gE X],eW (BitVec.allOnes 64)] S=O (.agg [aO (bI gN.length),aO (bI gE.length)],S,W):=by
 obtain⟨lN,h1,_⟩:=u.ints;obtain⟨lE,h2,A⟩:=u.eds;have D:gN.length=lN.length:=by rw[h1,br]
 have hm:gE.length=lE.length:=by rw[h2,br]
 refine sZ Q (Nh (.keep h1 h2 aa aa λ e y=>?_)) Q;have:=A e y;omega
def PO{v:U}:de (aC TN TE) 1 [] j [eI j]:=by refine(iO iB Q).2 ⟨Q,[SV.z,nI j],Q,aZ _,?_,nofun⟩;show _=[ak.sc (ao (j+0))];rw[fJ]
theorem Pc{m k:R}(h:((bI m).map λ n=>[eI n])[k]? =O e):e=[eI (k:U)]:=by grind[bI]
theorem aFQ{A:U}(h:de (aC TN TE) 12 [m,0,n] j e)(hm:m<=A):de (aC TN TE) 12 [A,0,n] j e:=by
 obtain⟨_,u,h1,h2,F,y⟩:=(iO iB Q).1 h;have Y:(aX u 0).i=0:=by rw[h1];rfl
 have e1:(aX u 1).i=m:=by rw[h1];rfl
 have e2:(aX u 2).i=0:=by rw[h1];rfl
 have e3:(aX u 3).i=n:=by rw[h1];rfl
 have K:(aX u 0).i<=(aX u 5).i+0:=y (.le 0 5 0) aw;have J:(aX u 5).i<=(aX u 1).i+0:=y (.le 5 1 0) aw;have S:(aX u 2).i<=(aX u 6).i+0:=y (.le 2 6 0) aw;have P:(aX u 6).i<=(aX u 3).i+0:=y (.le 6 3 0) aw;have N:(aX u 2).i<=(aX u 7).i+0:=y (.le 2 7 0) aw;have M:(aX u 7).i<=(aX u 3).i+0:=y (.le 7 3 0) aw;refine(iO iB (nm:=12) Q).2 ⟨Q,[SV.z,nI A,nI 0,nI n,nI j,nI _,nI _,nI _],Q,aZ _,F,λ f D=>?_⟩;simp at D;rcases D with rfl|rfl|rfl|rfl|rfl|rfl
 .show 0<=(aX u 5).i+0;omega
 .show(aX u 5).i<=A+0;omega
 .show(0:U)<=(aX u 6).i+0;omega
 .show(aX u 6).i<=n+0;omega
 .show(0:U)<=(aX u 7).i+0;omega
 show(aX u 7).i<=n+0;omega
theorem am5{a b:aP}(h:nh a b)(y:a.length=b.length):a=b:=by
 apply sI;intro i;cases u:a[i]?;.grind
 rename_i x;exact(h i x u).symm
theorem asI(J:qU tn te)(N:tz tn te gN gE)(n3:gN.length<=3)(e2:gE.length<=2):
 ∃iN iE,∀S,VW js ml 11 [.agg [.sl gN X,.sl gE X],.agg [aO (bI gN.length),aO (bI gE.length)]] S=O (.bp [.agg [.sl gN X,.sl gE X],.agg [.sl iN X,.sl iE X],eI 0],S,W):=by
 have l6:=J.l6;have Z:=J.e5
 obtain⟨o,K,u,b1,b2,b3,y⟩:=GG (TN:=tn) (TE:=te) _ ayD (λ k=>match k with|1=>lS gN|2=>lS gE|3=>lS ((bI gN.length).map λ n=>[eI n])|4=>lS ((bI gE.length).map λ n=>[eI n])|5=>nI gN.length|6=>nI gE.length|7=>nI gN.length|8=>nI gE.length|_=>SV.z) Q (λ i M=>by
  iterate 8 (rcases i with _|i;·first|rfl|cases M)
  cases M) (λ f P=>by
  simp only[Q6,cg,lr,lQ]at P;rcases P with rfl|rfl|rfl|rfl|rfl|rfl|rfl|rfl|rfl|rfl|rfl|rfl
  .refine⟨(fJ _).symm,λ i x hx=>?_⟩;obtain⟨v,rfl,h1,h2⟩:=Q9 (N.n i x hx);exact abb (a:=0) (b:=99) aa aa
  .exact⟨(fJ _).symm,λ i x hx=>by have:=N.e i x hx;grind[cM,nI,SV.z,aFQ]⟩
  .show(0:U)<=(gN.length:U)+0;omega
  .show(gN.length:U)<=0+40;omega
  .show(0:U)<=(gE.length:U)+0;omega
  .show(gE.length:U)<=0+80;omega
  .refine⟨by show(((bI gN.length).map λ n=>[eI n]).length:U)=(gN.length:U)+0;rw[br,GW];omega,λ i x hx=>?_⟩;rw[Pc (m:=gN.length) hx];exact PO (v:=0)
  .refine⟨by show(((bI gE.length).map λ n=>[eI n]).length:U)=(gE.length:U)+0;rw[br,GW];omega,λ i x hx=>?_⟩;rw[Pc (m:=gE.length) hx];exact PO (v:=0)
  .show(0:U)<=(gN.length:U)+0;omega
  .show(gN.length:U)<=(gN.length:U)+0;omega
  .show(0:U)<=(gE.length:U)+0;omega
  show(gE.length:U)<=(gE.length:U)+0;omega) (λ m lo e=>bk)
 have e0:(u 0).i=0:=by rw[<-b1 0 (by decide)];rfl
 have e5:(u 5).i=gN.length:=by rw[<-b1 5 (by decide)];rfl
 have e7:(u 7).i=gN.length:=by rw[<-b1 7 (by decide)];rfl
 have e8:(u 8).i=gE.length:=by rw[<-b1 8 (by decide)];rfl
 have e1:(u 1).l=gN:=by rw[<-b1 1 (by decide)];rfl
 have e2:(u 2).l=gE:=by rw[<-b1 2 (by decide)];rfl
 simp only[Q6,cg,lr,lQ]at K;rcases K with rfl|rfl
 .have F:cL (aC tn te) u (.sl 9 7 0 0 [(0,0),(0,99)]):=y _ aw;have Y:cL (aC tn te) u (.sl 10 8 0 12 [(0,99),(0,0),(7,(-1))]):=y _ aw;have D:nh (u 9).l (u 1).l:=y (.pr 107 [.s 9,.s 1]) aw;have A:nh (u 10).l (u 2).l:=y (.pr 107 [.s 10,.s 2]) aw;have q1:=F.1;have q2:=Y.1;rw[e1]at D;rw[e2]at A;have r1:=am5 D aa;have r2:=am5 A aa;refine⟨(u 11).l,(u 12).l,λ S=>?_⟩;have b3:VW js ml 11 [.agg [.sl gN X,.sl gE X],.agg [aO (bI gN.length),aO (bI gE.length)]] S=O (.bp [.agg [.sl (u 9).l X,.sl (u 10).l X],.agg [.sl (u 11).l X,.sl (u 12).l X],.sc (ao ((u 0).i+0))],S,W):=b3 S;grind
 .have F:(u 7).i<=(u 5).i+(-1):=y (.le 7 5 (-1)) aw;omega
def SL(tn te:aP)(rs:aP):Prop:=rs.length<=2/\∀(i:R) e,rs[i]? =O e->de (aC tn te) 16 [(tn.length:U),(te.length:U),1] i e
theorem aq4(u:qU tn te)(y:SL tn te rs):∃v,∀S,VW js ml 13 [.agg [.sl tn X,.sl te X],.sl rs X] S=O (eI v,S,W):=by
 obtain⟨K,y⟩:=y
 obtain⟨o,J,F,b1,b2,b3,M⟩:=GG _ aqG (λ k=>match k with|1=>lS tn|2=>lS te|3=>lS rs|4=>nI tn.length|5=>nI te.length|6=>nI rs.length|_=>SV.z) rfl (λ i A=>by
  iterate 6 (rcases i with _|i;·first|rfl|cases A)
  cases A) (λ f D=>by
  simp only[Z5,cg,lr,lQ]at D;rcases D with rfl|rfl|rfl|rfl|rfl|rfl|rfl|rfl|rfl|rfl
  .exact⟨(fJ _).symm,u.n⟩
  .exact⟨(fJ _).symm,λ i x hx=>by have:=u.e i x hx;grind[cM,nI]⟩
  .show(0:U)<=(tn.length:U)+(-1);have:=u.l1;omega
  .show(tn.length:U)<=0+6;have:=u.l6;omega
  .show(0:U)<=(te.length:U)+0;omega
  .show(te.length:U)<=0+5;have:=u.e5;omega
  .exact⟨rfl,rfl⟩
  .exact⟨(fJ _).symm,λ i x hx=>by have:=y i x hx;grind[cM,nI,SV.z]⟩
  .show(0:U)<=(rs.length:U)+0;omega
  show(rs.length:U)<=0+2;omega) (nofun)
 obtain rfl:=cJ.1 J;exact⟨_,λ S=>b3 S⟩
theorem asD(u:qU tn te)(y:SL tn te rs):∃b,∀S,VW js ml 14 [.agg [.sl tn X,.sl te X],.sl rs X] S=O (eB b,S,W):=by
 obtain⟨K,y⟩:=y
 obtain⟨o,J,F,b1,b2,b3,M⟩:=GG _ aEG (λ k=>match k with|1=>lS tn|2=>lS te|3=>lS rs|4=>nI tn.length|5=>nI te.length|6=>nI rs.length|_=>SV.z) rfl (λ i A=>by
  iterate 6 (rcases i with _|i;·first|rfl|cases A)
  cases A) (λ f D=>by
  simp only[ace,cg,lr,lQ]at D;rcases D with rfl|rfl|rfl|rfl|rfl|rfl|rfl|rfl|rfl|rfl
  .exact⟨(fJ _).symm,u.n⟩
  .exact⟨(fJ _).symm,λ i x hx=>by have:=u.e i x hx;grind[cM,nI]⟩
  .show 0<=(tn.length:U)+(-1);have:=u.l1;omega
  .show(tn.length:U)<=0+6;have:=u.l6;omega
  .show 0<=(te.length:U)+0;omega
  .show(te.length:U)<=0+5;have:=u.e5;omega
  .exact⟨rfl,rfl⟩
  .exact⟨(fJ _).symm,λ i x hx=>by have:=y i x hx;grind[cM,nI,SV.z]⟩
  .show(0:U)<=(rs.length:U)+0;omega
  show(rs.length:U)<=0+2;omega) (nofun)
 obtain rfl:=cJ.1 J;exact⟨_,λ S=>b3 S⟩
end
end
end Go.Abs
