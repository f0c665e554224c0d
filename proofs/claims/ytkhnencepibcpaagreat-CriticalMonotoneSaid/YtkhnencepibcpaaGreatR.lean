/- The law. -/
import Derived.Test.YtkhnencepibcpaaGreatB
import Derived.Test.YtkhnencepibcpaaGreatSh
import Derived.Test.YtkhnencepibcpaaGreatP
import Derived.Test.YtkhnencepibcpaaGreatQ
import Derived.Deep.Slices
import Derived.Deep.Fields
import Derived.ChangeSame
import Derived.OpenShut
import Derived.Below
set_option linter.all false
set_option maxRecDepth 100000
open Bool renaming false->W,true->V
open Go renaming DataW->ale,MemPlace->awj,Value->ye
open Go.DataW renaming trod->acZ,trod_int->awT,weights->axz,weightsAll->auQ,weightsEach->ajT
open List renaming range->vv,take_of_length_le->PN
open Option renaming none->X,some->O
open _root_ renaming Bool->mi,Int->U,List->B,Nat->R,rfl->Q,trivial->sp
namespace Go.Abs
noncomputable section
open Go Go.Proofs
variable{F:lB}{dX:Da}{e t:bj}{fb:mi}{i k n q:R}{v:ye}{ρ:dO}
section
variable{off v:R}
variable{ng:R}{H K K':aj}{I:Im}
def uc(ng:R):bg:=λ f args H=>if f=5 then(match args with|[]=>O (.bool V,H)|_=>X)else bZ ng f args H
def aC2:uc ng 5 [] H=O (.bool V,H):=by unfold uc;rw[aY Q]
def V8{f:ck}(u:f≠5){args:aF}:uc ng f args H=bZ ng f args H:=by unfold uc;rw[aR u]
def aqY{u:bg}{l:aF}{H:aj}:eL af u 4 l H=u 4 l H:=by simp only[eL,Tryz.func4];rfl
def akN{u:bg}{l:aF}{H:aj}:eL af u 5 l H=u 5 l H:=by simp only[eL,Tryz.func5];rfl
def al4{u:bg}{l:aF}{H:aj}:eL af u 6 l H=u 6 l H:=by simp only[eL,Tryz.func6];rfl
def amB{u:bg}{l:aF}{H:aj}:eL af u 7 l H=u 7 l H:=by simp only[eL,Tryz.func7];rfl
abbrev xl(a b k c d:lB):aF:=[a 0,b 0,k 0,c 0,d 0,a 1,b 1,k 1,c 1,d 1]
def aj3{o:R}(u:i<2):iL af 28 (.ptr v o) (aW i)=O (.ptr v (o+i*5)):=by
 match i,u with
 |0,_=>simp only[iL,Tryz.underlying28,Lx];rfl
 |1,_=>simp only[iL,Tryz.underlying28,Lx];rfl
theorem axb{H:aj}{n:U}:dD af H 25 (.ptr v off) (.int .u64 n)=write H v off [.int .u64 n]:=by simp only[dD,Vy];rfl
theorem aHW{H:aj}:dD af H 23 (.ptr v off) .aq=write H v off [.aq]:=by simp only[dD,Np];rfl
def qi3:Tryz.prog.info? 3=O Tryz.t3:=aH
noncomputable def V5:dV:=match Tryz.f3.body with
 |O (.seq _ (.seq _ (.seq _ (.seq _ (.seq _ (.seq (.region _ u _) _))))))=>u
 |_=> #[]
structure DfI (fb:mi) (i:R) (k0 d0 k d:lB):Prop where
 a:∀j,j<i->k j=oU/\d j=if fb=true then d0 j else .aq
 b:∀j,i<=j->k j=k0 j/\d j=d0 j
theorem azs(g:Good H)(hI:bO I H.ah.get){zT zE:Ji}{D y:au}(pT:∀p∈zT,P8 p)(pE:∀p∈zE,P8 p)(r1:RP I (.sl (zT.map vw) X) D)(r2:RP I (.sl (zE.map vw) X) y){Xqq:R->LZ}{a b c d:lB}{k:R->U}(hX:∀i,i<2->Jl I (Xqq i) (a i) (b i) (c i) (d i)):
 ∃r,fp af ng (uc ng) 3 [.agg (D::y::xl a b (λ i=>.int .u64 (k i)) c d),.bool fb] H r/\r.1=.bool true:=by
 have ap:∀l,(au.agg l).cells=l:=λ _=>rfl
 have f1:=iv g (D::y::xl a b (λ i=>.int .u64 (k i)) c d) true 1;have g1:=jb g (D::y::xl a b (λ i=>.int .u64 (k i)) c d) true 1;have b1:=dk.alloc H (D::y::xl a b (λ i=>.int .u64 (k i)) c d);generalize hA:D::y::xl a b (λ i=>.int .u64 (k i)) c d=A at*;generalize av:alloc H A true 1=K1 at*;have aO:K1.ae=H.ae+1:=by rw[<-av];rfl
 refine lp Tryz.func3 Q ?_;show bB af ng (uc ng) 64 _ _ _ _;have a0:ai (eH [.agg A,.bool fb] 0 .nil) 0=.agg A:=rfl;have a1:ai (eH [.agg A,.bool fb] 0 .nil) 1=.bool fb:=rfl;refine aB (aS (H':=K1) (λ T=>ai T 2=.ptr H.ae 0) (jG a0 ap av) ?_);intro T1 t2 k1;have t1:=aL k1 a1;refine aB (aB (aS (H':=K1) (λ T=>ai T 11=aW 0) sp ?_));intro T2 ag k2;refine gR (pq (λ mm T K=>∃(i:R) (Z u:lB),mm+i=2/\DfI fb i (λ i=>.int .u64 (k i)) d Z u/\dk K H.ae (D::y::xl a b Z c u)/\Good K/\Fr X H K/\ai T 1=.bool fb/\ai T 2=.ptr H.ae 0/\ai T 11=aW i) ?_ 2 _ _ ⟨0,_,d,Q,⟨λ j hj=>absurd hj (adV _),λ j _=>⟨Q,Q⟩⟩,by rw[hA];exact b1,g1,f1,aL k2 t1,aL k2 t2,ag⟩);clear k1 k2 t1 t2 ag b1
 rintro mm T K ⟨i,Z,u,aP,hD,bx,gk,fr,u1,u2,ad⟩
 refine aB (iK (H':=K) (λ T=>ai T 12=.bool (decide (i<2))) ?_ ?_)
 ·(repeat ((first|apply fC (cf rfl)|apply jF rfl rfl rfl);simp+decide only[AB,ad];rfl))
  exact fX aaV
 intro T3 aC k3;obtain⟨S,v2,ac⟩:=pB k3 u1 u2 ad;refine aB (eX (by rw[fQ,aC]) (λ M=>fZ ?_) (λ an=>mY ?_))
 .have M:=jL M;refine aB (gR (aB (aS (H':=K) (λ T=>ai T 5=aW i) ac ?_)));intro T4 t5 k4;obtain⟨w1,w2,F⟩:=pB k4 S v2 ac;obtain⟨K2,y1,y2,y3,y4⟩:=bx.write gk (off:=2+i*5+2) (new:=[oU]) (aa:2+i*5+2+1<=12) Q;have s1:dD af K 25 (.ptr H.ae (0+2+i*5+2)) (.int .u64 18446744073709551615)=O K2:=by grind[axb]
  refine aB (iK (H':=K2) (λ T=>True) ?_ ?_)
  ·(repeat ((first|apply fC (cf rfl)|apply jF rfl rfl rfl);simp+decide only[AB,w2,t5,aav,aj3 M,aoB,s1];rfl))
   exact fX sp
  intro T5 _ k5;obtain⟨w1,w2,t5,F⟩:=xu k5 w1 w2 t5 F;have ax:Fr X H K2:=fr.yJ g y3 (aZ _);have ab:∀{t:bj},cY af .add t (aW i) (ao 1)=O (aW (i+1)):=uZ aa
  have ar:dk K2 H.ae (D::y::xl a b (λ j=>if j=i then oU else Z j) c u):=by
   match i,M with
   |0,_=>exact y2
   |1,_=>exact y2
  clear y2
  have fin:∀(P:aM) (K':aj) (d2:lB),d2 i=(if fb=true then d i else .aq)->(∀j,j≠i->d2 j=u j)->dk K' H.ae (D::y::xl a b (λ j=>if j=i then oU else Z j) c d2)->Good K'->Fr X H K'->ai P 1=.bool fb->ai P 2=.ptr H.ae 0->ai P 11=aW (i+1)->
   ∃j,j<mm/\∃(i:R) (Z u:lB),j+i=2/\DfI fb i (λ i=>.int .u64 (k i)) d Z u/\dk K' H.ae (D::y::xl a b Z c u)/\Good K'/\Fr X H K'/\ai P 1=.bool fb/\ai P 2=.ptr H.ae 0/\ai P 11=aW i:=λ P K' d2 e1 e2 bb gg ff x1 x2 x3=>by
   refine⟨mm- 1,aa,i+1,_,d2,aa,⟨λ j hj=>?_,λ j hj=>?_⟩,bb,gg,ff,x1,x2,x3⟩
   .by_cases aT:j=i;.grind
    have:=hD.a j aa;grind[trans]
   .have:=hD.b j aa;grind[trans]
  have aH:=(hD.b i (aZ _)).2;refine aB (aS (H':=K2) (λ T=>ai T 19=.bool (!fb)) w1 ?_);intro T6 aA k6;obtain⟨w1,w2,t5,F⟩:=xu k6 w1 w2 t5 F;refine eX (by rw[fQ,aA]) (λ hf=>?_) (λ hf=>fZ ?_)
  .have hf:fb=false:=by simpa using hf
   obtain⟨K3,z1,z2,z3,z4⟩:=ar.write y4 (off:=2+i*5+4) (new:=[.aq]) (aa:2+i*5+4+1<=12) Q;have s2:dD af K2 23 (.ptr H.ae (0+2+i*5+4)) .aq=O K3:=by grind[aHW]
   refine iK (H':=K3) (λ T=>True) ?_ ?_
   ·(repeat ((first|apply fC (cf rfl)|apply jF rfl rfl rfl);simp+decide only[AB,w2,t5,aav,aj3 M,Tx,s2];rfl))
    exact fX sp
   intro T7 _ k7
   have aI:dk K3 H.ae (D::y::xl a b (λ j=>if j=i then oU else Z j) c (λ j=>if j=i then .aq else u j)):=by
    match i,M with
    |0,_=>exact z2
    |1,_=>exact z2
   have ay:=aL k7 F;refine aS (H':=K3) (λ T=>ai T 11=aW (i+1)) (iy ay @ab) ?_;intro T8 N k8;exact fin T8 K3 _ (by simp[hf]) (λ j hj=>aR hj) aI z4 (ax.yJ g z3 (aZ _)) (aL k8 (aL k7 w1)) (aL k8 (aL k7 w2)) N
  have hf:fb=true:=by simpa using hf
  refine aS (H':=K2) (λ T=>ai T 11=aW (i+1)) (iy F @ab) ?_;intro T8 N k8;exact fin T8 K2 u (by rw[aH,aY hf]) (λ j hj=>rfl) ar y4 ax (aL k8 w1) (aL k8 w2) N
 .have an:=tM an;obtain⟨e0,e1⟩:=hD.a 0 aa;obtain⟨e2,e3⟩:=hD.a 1 aa;have bx:dk K H.ae (D::y::yx a b c u):=by grind
  have aN:bO I K.ah.get:=LP hI fr
  have aJ:∀i,i<2->Jl I (if fb=true then Xqq i else((Xqq i).1,(Xqq i).2.1,(Xqq i).2.2.1,[])) (a i) (b i) (c i) (u i):=λ j hj=>by
   have hd:u j=if fb=true then d j else .aq:=(hD.a j aa).2;have x:=hX j hj;rw[hd];cases fb;.exact⟨x.ra,x.rb,x.rc,oD,x.d1,x.d2,x.d3,λ v hv=>bk⟩
   exact x
  obtain⟨⟨rv,K4⟩,F4,md⟩:=aC4 (ng:=ng) gk aN pT pE r1 r2 aJ;obtain⟨sN,sE,sl,ok,ak,o1,o2,al⟩:=md.v;have f4:=md.fr;have g4:=md.g;simp only at ak al f4 g4;subst ak;have c4:uc ng 4 [.agg (D::y::yx a b c u)] K=O (.tuple [.agg [sN,sE],sl,.bool ok],K4):=(V8 cB).trans (nW Q F4);have f5:=iv g4 tu true 1;have g5:=jb g4 tu true 1;have b5:=dk.alloc K4 tu;generalize aK:alloc K4 tu true 1=K5 at*;obtain⟨K6,w6,b6,q6,g6⟩:=b5.write g5 (off:=0) (new:=[sN,sE]) (aZ 2) bP;have s6:dD af K5 34 (.ptr K4.ae 0) (.agg [sN,sE])=O K6:=by rw[LH Q];exact w6
  have b6:dk K6 K4.ae [sN,sE]:=b6;have rA:aQ K.ah.get H.ae 0 12=O (D::y::yx a b c u):=bx.rd (aZ 12);refine aB (aS (H':=K6) (λ T=>ai T 6=.ptr K4.ae 0/\ai T 7=sl/\ai T 8=.bool ok) (mN v2 (aty rA) @aqY c4 @YN ap aK s6) ?_)
  rintro T4 ⟨t6,t7,t8⟩ k4
  have S:=aL k4 S;have d5:∀{H:aj},uc ng 5 [] H=O (.bool true,H):=aC2;refine aB (aB (aS (H':=K6) (λ T=>ai T 36=.bool (!ok)) (jG t8 @akN @d5) ?_));intro T5 az k5;obtain⟨S,t6,t7⟩:=pB k5 S t6 t7;refine eX (by rw[fQ,az]) (λ hb=>?_) (λ hb=>fZ ?_);.refine aB (aS (H':=K6) (λ T=>ai T 4=.bool true) (iy @akN @d5) ?_);intro T6 t4 k6;refine iZ ⟨aw,[.bool true],?_,Q⟩;show eG af _ _ [.tmp 4]=_;simp only[eG,t4]
  have hb:ok=true:=by simpa using hb
  obtain⟨J,tn,te,Rqq,iJ,jK,rN,rE,rR,ht,hR,aE⟩:=al hb;have j6:bO J K6.ah.get:=imO (LP jK f5) q6 (aaw g4 jK (aZ _));obtain⟨⟨rp,K7⟩,F6,f7,g7,hp⟩:=aqa (ng:=ng) g6 j6 ht rN rE hR.1 hR.2 rR;simp only at f7 g7 hp;have c6:uc ng 6 [.agg [sN,sE],sl] K6=O (rp,K7):=(V8 cB).trans (nW Q F6);have r6:aQ K6.ah.get K4.ae 0 2=O [sN,sE]:=b6.rd (aZ 2);rcases hp with rfl|⟨s,n,cs,fm,rfl,ps⟩
  .refine aB (aS (H':=K7) (λ T=>ai T 10=ao 3) (xK t6 t7 (Aj r6) @al4 c6) ?_);intro T6 Y k6;refine aB (aS (H':=K7) (λ T=>ai T 4=.bool true) Y ?_);intro T7 t4 k7;refine iZ ⟨aw,[.bool true],?_,Q⟩;show eG af _ _ [.tmp 4]=_;simp only[eG,t4]
  refine aB (aS (H':=K7) (λ T=>ai T 9=s/\ai T 10=ao 0) (xK t6 t7 (Aj r6) @al4 c6) ?_)
  rintro T6 ⟨t9,Y⟩ k6
  have S:=aL k6 S;have hn:=ps.l;obtain⟨⟨rk,K8⟩,F7,x,hx⟩:=atC (ng:=ng) g7 aa ps.own.read ps.kd ps.one;simp only at hx;subst hx;have c7:uc ng 7 [s] K7=O (.agg [ao 0,x],K8):=(V8 cB).trans (nW Q F7);have aG:dh af 39 s=O (aW n):=ps.own.read.dh Tryz.underlying39;have am:uw af 43 (.agg [ao 0,x]) (ao 0)=O (ao 0):=by simp only[uw,Tryz.underlying43,Tryz.underlying3,qi3];rfl
  have aD:∃P,gv af ng (uc ng) 64 V5.toList V5.toList T6 K7=O (P,K8)/\ai P 4=.bool true:=by
   cases fb
   .have aF:n=0:=by
     by_cases h:n=0;.exact h
     obtain⟨e,he,hf⟩:=ps.fb h;exact absurd hf (aE (λ i _=>rfl) e he)
    subst aF;have hd:decide (Int.ofNat 0=0)=true:=rfl
    (repeat ((first|apply fC (cf rfl)|apply jF rfl rfl rfl);simp+decide only[AB,t9,Y,S,mG,ou,amB,c7,am,aG,hd];rfl))
    exact fX gW
   (repeat ((first|apply fC (cf rfl)|apply jF rfl rfl rfl);simp+decide only[AB,t9,Y,S,mG,ou,amB,c7,am];rfl))
   exact fX gW
  refine aB (iK (H':=K8) (λ T=>ai T 4=.bool true) aD ?_);intro T7 t4 k7;refine iZ ⟨aw,[.bool true],?_,Q⟩;show eG af _ _ [.tmp 4]=_;simp only[eG,t4]
end
section
variable{ng:R}
def Q5:Prop:=∀(H:aj) Bqq ρ w u,jU Bqq 0 ρ H w->dS ρ [] u->Calls af 5 ⟨u⟩ w (λ e y=>∃x,e=.returned x/\bW ρ (.bool V) x/\cW Bqq 0 H.ah.get H.ae H.ae ρ w H.ah.get H.aV.get ρ y)
def aj2{f:ck}{args:aF}{H:aj}{r:xe}(h:uc ng f args H=O r):(f=5/\args=[]/\r=(.bool V,H))\/bZ ng f args H=O r:=by
 unfold uc at h;split at h
 .rename_i e;split at h;.cases h;exact .inl ⟨e,Q,Q⟩
  cases h
 exact .inr h
def arG:ib (uc ng):=λ f args H v u h=>by
 rcases aj2 h with⟨_,_,k⟩|k
 .cases k;exact iM.refl _
 exact aBf _ _ _ _ _ k
def aDC(D:Q5)(y:xW af):jV af 0 (uc 0):=λ f args H v K h Bqq ρ w A s wf u hx=>by
 rcases aj2 h with⟨rfl,rfl,k⟩|k
 .cases k;exact(D H Bqq ρ w A s hx).mono λ e J ⟨x,h1,h2,F⟩=>⟨x,ρ,h1,h2,F⟩
 exact avV y _ _ _ _ _ k Bqq ρ w A s wf u hx
def aFF(ha:Q5)(D:xW af){I:Im}{H:aj}(g:Good H)(hI:bO I H.ah.get){K M:Ji}{P N:au}(Y:∀p∈K,P8 p)(pE:∀p∈M,P8 p)(r1:RP I (.sl (K.map vw) X) P)(r2:RP I (.sl (M.map vw) X) N){Xqq:R->LZ}{a b c d:lB}{k:R->U}(hX:∀i,i<2->Jl I (Xqq i) (a i) (b i) (c i) (d i)){fb:mi}
 {Bqq:R} {w:cG} {J:jZ} (s:jU Bqq 0 ρ H w) (u:∀v,H.ae<=v->ρ v=X) (hx:dS ρ [.agg (P::N::xl a b (λ i=>.int .u64 (k i)) c d),.bool fb] J):
 Calls af 3 ⟨J⟩ w (λ e y=>e=.returned (.bool true)/\y.os=w.os/\y.tape=w.tape/\y.output=w.output/\w.heap.size<=y.heap.size/\∀b,b<Bqq->y.heap[b]? =w.heap[b]?):=by
 obtain⟨⟨v,H'⟩,h3,A⟩:=azs (ng:=0) g hI Y pE r1 r2 hX (k:=k) (fb:=fb);simp only at A;subst A;refine(aaz (aDC ha D) arG D h3 Bqq ρ w J s g.wf (λ v h _=>u v h) hx).mono λ e y ⟨x,S,Z,A,F⟩=>?_
 have A:x=.bool true:=A;subst A;exact⟨Z,F.os,F.tape,F.output,F.size,cW.below s F⟩
end
section
open Go.ChangeShapes Go.Deep Go.WideShapes
variable{r:Row}
section
variable{H:Type}{enc:bj×ye->H}{P:aA}{w:cG}{held:mi}
def Wt(P:aA)(t:bj)(d:ale H):Prop:=∀x∈d.weights P t,x<=reachBytes
theorem ao4:∀{l:B (ale H)} {d:ale H} {x:R},d∈l->x∈d.weights P e->x∈auQ P e l
 |a::l,d,x,u,hx=>by
  rw[auQ,wa];rcases cg.1 u with rfl|u
  .exact .inl hx
  exact .inr (ao4 u hx)
 |[],_,_,u,_=>bk
theorem aia:∀{u:xC} {ds:B (ale H)} {j:R} {t:bj} {d:ale H} {x:R},u[j]? =O t->ds[j]? =O d->x∈d.weights P t->x∈ajT P u ds
 |[],_,_,_,_,_,y,_,_=>by simp at y
 |_::_,[],_,_,_,_,_,A,_=>by simp at A
 |t::u,d::ds,0,_,_,x,y,A,hx=>by grind[ajT]
 |t::u,d::ds,j+1,_,_,x,y,A,hx=>by rw[ajT,wa];exact .inr (aia y A hx)
theorem Wt.slice{elems u:B (ale H)}(y:P.underlying t=O (.slice e))(h:Wt P t (.slice elems u)):(elems.length+u.length)*P.bytesOf e<=reachBytes/\∀d∈elems,Wt P e d:=by unfold Wt at h⊢;grind[axz,List.mem_cons_self,ao4]
def Wt.struct{fs:Array Field}{u:B (ale H)}(y:P.underlying t=O (.struct fs))(h:Wt P t (.agg u)){j:R}{f:Field}{d:ale H}(A:fs[j]? =O f)(D:u[j]? =O d):Wt P f.type d:=by unfold Wt at h⊢;rw[axz,y]at h;exact λ x hx=>h x (aia (by simpa using⟨f,A,Q⟩) D hx)
theorem Up{a:Addr}(h:w.cell? (a.add i)=O v):∃C ty fz,w.heap[a.block]? =O (.cells C ty fz)/\C[a.off+i]? =O v/\(i=0->a.spot=X):=by
 have u:(a.add i).off=a.off+i:=by grind[Addr.add]
 unfold World.cell? at h;rw[(show(a.add i).block=a.block by grind[Addr.add]),u]at h;split at h
 .rename_i C ty fz y;split at h;.cases h
  refine⟨C,ty,fz,y,h,λ e=>?_⟩;have:a.add 0=a:=by simp[Addr.add]
  simp_all
 cases h
def rB(w:cG)(k:R)(c:ye)(len:R)(dX:Da):Prop:=
 (c=.slice X 0 0/\len=0)\/(∃a cap,c=.slice (O a) 0 cap/\len=0)\/
 ∃b off cap C ty fz,c=.slice (O ⟨b,off,X⟩) len cap/\0<len/\len<=cap/\w.heap[b]? =O (.cells C ty fz)/\off+cap*k<=C.size/\∀q,q<len*k->C[off+q]? =O (dX q)
end
def qb(id:R):ye->au
 |.slice (O _) 0 _=>.eY
 |.slice (O _) (n+1) _=>.slice id 0 (n+1) X
 |_=>.aq
def D6(k:R):ye->Option Loc
 |.slice (O a) (_+1) cap=>O ⟨a.block,a.off,cap*k,k⟩
 |_=>X
def sG(k:R)(F:lB):ye->oR
 |.slice (O _) (n+1) _=>O ⟨(vv ((n+1)*k)).map F,0,0,W,V,k⟩
 |_=>X
theorem awu{c:ye}(h:sG k F c=O r):r.ro=V/\r.aI=0:=by unfold sG at h;grind
theorem rB.bW{w:cG}{c:ye}{len:R}(h:rB w k c len dX)(A:0<k){id:R}(y:ρ id=D6 k c):bW ρ (qb id c) c:=by
 rcases h with⟨rfl,_⟩|⟨a,cap,rfl,_⟩|⟨b,off,cap,C,ty,fz,rfl,u⟩
 .exact Q
 .exact⟨a,cap,Q⟩
 match len,u with
 |n+1,_=>
  refine⟨⟨b,off,cap*k,k⟩,y,?_⟩;grind[Nat.mul_div_cancel]
theorem rB.row{w:cG}{c:ye}{len:R}(h:rB w k c len dX){Bqq:R}{id:R}(y:ρ id=D6 k c)(P:∀q,q<len*k->Abs.bW ρ (F q) (dX q))(A:sG k F c=O r):
 ∃l C e fz,ρ id=O l/\w.heap[l.cU]? =O (.cells C e fz)/\Ch Bqq ρ r l C fz:=by
 rcases h with⟨rfl,_⟩|⟨a,cap,rfl,_⟩|⟨b,off,cap,C,ty,fz,rfl,u,J,K,D,M⟩<;>try cases A
 match len,u with
 |n+1,_=>
  cases A;refine⟨⟨b,off,cap*k,k⟩,C,ty,fz,y,K,⟨by simpa using(uI _ J),D,(nofun),Q,(nofun),(nofun),λ i c N=>?_⟩⟩;grind
theorem rB.read{w:cG}{c:ye}{len:R}(h:rB w k c len dX){g:fE}{id:R}(y:g id=sG k F c):jX g k len (qb id c) ((vv (len*k)).map F):=by
 rcases h with⟨rfl,rfl⟩|⟨a,cap,rfl,rfl⟩|⟨b,off,cap,C,ty,fz,rfl,u⟩
 .exact⟨aw,.inl ⟨Q,.inl Q⟩⟩
 .exact⟨aw,.inl ⟨Q,.inr Q⟩⟩
 match len,u with
 |n+1,_=>
  refine⟨aw,.inr ⟨id,0,X,_,Q,y,aw,?_⟩⟩;grind[PN]
def Kv(f:fE):R->kH
 |0=>.nil
 |n+1=>(Kv f n).set n (f n)
theorem aai(f:fE):∀(n i:R),(Kv f n).get i=if i<n then f i else X
 |0,i=>rfl
 |n+1,i=>by rw[Kv,Tr.jg,aai f n i];grind
end
section
open Go.ChangeShapes Go.Deep Go.WideShapes
section
variable{H:Type}{enc:bj×ye->H}{P:aA}{w:cG}{held:mi}
theorem abz{e':bj}{c:ye}{y:ale H×B awj}(ht:P.underlying t=O (.slice e))(he:P.underlying e=O (.array k e'))(hC:P.cellsOf e=k)(ad:P.cellsOf e'=1)(F:0<k)
 (h:acZ enc P w 0 (λ _=>V) held n t [c]=O y):
 ∃len dX,rB w k c len dX/\∀i j,i<len->j<k->∃m z,acZ enc P w 0 (λ _=>V) held m e' [dX (i*k+j)]=O z:=by
 rcases open_slice ht h with⟨hc,_⟩|⟨a,len,cap,m,n',D,Pl,M,_,hl,_,hm,hx,N⟩
 .simp at hc;exact⟨0,λ _=>.bool W,.inl ⟨hc,Q⟩,λ i j N=>aa⟩
 .simp at M;subst hm;have S:∀i,i<m->∃J,J.length=k/\(∀j,j<k->w.cell? (a.add (i*k+j))=J[j]?)/\acZ enc P w 0 (λ _=>V) held n' e J=O (D i,Pl i):=by intro i ac;obtain⟨J,h1,h2⟩:=N i ac;obtain⟨_,h3,h4⟩:=World.cells?_some h1;grind[add_add]
  rcases Nat.eq_zero_or_pos len with h0|hlen
  .subst h0;exact⟨0,λ _=>.bool W,.inr (.inl ⟨a,m,M,Q⟩),λ i j N=>aa⟩
  have u:∀q,q<m*k->∃v,w.cell? (a.add q)=O v:=by intro q hq;have N:=(Nat.div_lt_iff_lt_mul F).2 hq;have hj:q%k<k:=Nat.mod_lt _ F;grind[Nat.div_add_mod]
  have ab:0<m*k:=Nat.mul_pos aa F;obtain⟨v0,Y⟩:=u 0 ab;obtain⟨C,ty,fz,hb,_,Z⟩:=Up Y;have A:=Z Q;have aj:∀q v,w.cell? (a.add q)=O v->C[a.off+q]? =O v:=by grind[Up]
  have K:a.off+m*k<=C.size:=by obtain⟨v,hv⟩:=u (m*k- 1) aa;grind
  refine⟨len,λ q=>(w.cell? (a.add q)).getD (.bool W),.inr (.inr ⟨a.block,a.off,m,C,ty,fz,?_,hlen,hl,hb,K,λ q hq=>?_⟩),λ i j ah hj=>?_⟩;.rw[M];cases a;simp at A;rw[A]
  .have ag:len*k<=m*k:=uI _ hl;obtain⟨v,hv⟩:=u q aa;grind
  obtain⟨J,h1,h2,h3⟩:=S i aa;obtain⟨xs,n2,_,ae,_,af,ai⟩:=DataW.trod_array he h3;grind[List.drop_eq_getElem_cons]
end
end
section
open Go.ChangeShapes Go.Deep Go.RowKit Go.WideShapes
variable{held:mi}{α:Type}
theorem aui{H:Type}{K:bj×ye->H}{P:aA}{w:cG}{c:ye}{y:ale H×B awj}(Z:P.underlying t=O (.slice e))(hC:P.cellsOf e=1)(h:acZ K P w 0 (λ _=>V) held n t [c]=O y):
 ∃len dX,rB w 1 c len dX/\∀i,i<len->∃m z,acZ K P w 0 (λ _=>V) held m e [dX i]=O z:=by
 rcases open_slice1 Z hC h with⟨Y,_⟩|⟨a,len,cap,m,n',dX,D,Pl,F,_,hl,_,hm,hx,N⟩
 .simp at Y;exact⟨0,λ _=>.bool W,.inl ⟨Y,Q⟩,λ i N=>aa⟩
 .simp at F;subst hm;rcases Nat.eq_zero_or_pos len with h0|hlen
  .subst h0;exact⟨0,λ _=>.bool W,.inr (.inl ⟨a,m,F,Q⟩),λ i N=>aa⟩
  obtain⟨C,ty,fz,S,_,M⟩:=Up (N 0 aa).1;have u:=M Q;have J:∀q,q<m->C[a.off+q]? =O (dX q):=by grind[Up]
  have A:a.off+m*1<=C.size:=by have:=(adT.1 (J (m- 1) aa)).1;omega
  refine⟨len,dX,.inr (.inr ⟨a.block,a.off,m,C,ty,fz,?_,hlen,hl,S,A,λ q hq=>J q aa⟩),λ i ab=>?_⟩;.rw[F];cases a;simp only at u;rw[u]
  grind
def sc:ye->au
 |.bool b=>.bool b
 |.int k n=>.int k n
 |_=>.fq
def vY:ye->U
 |.int _ n=>n
 |_=>0
def U8(v:ye):Prop:=v=.int .u8 (vY v)/\tj (vY v)
def Rx:Tryz.prog.cellsOf 5=1:=aH
def ahc:Tryz.prog.cellsOf 83=2:=aH
def arJ:Tryz.prog.cellsOf 90=3:=aH
theorem S3{H:Type}{u:bj×ye->H}{bB:cG}{m:R}{z:ale H×B awj}(h:acZ u af bB 0 (λ _=>V) held m 5 [v]=O z):U8 v:=by obtain⟨n,y,_,A⟩:=awT Tryz.underlying5 h;simp at y;subst y;exact⟨Q,(bounds_u8 A)⟩
def EN(h:U8 v):sc v=.int .u8 (vY v):=by rw[h.1];rfl
def acJ(h:U8 v):bW ρ (sc v) v:=(EN h)▸h.1
theorem aiU{I:Im}:∀{es:aP} {u:aF},u.length=es.length*k->(∀i e,es[i]? =O e->e.length=k/\dq I e (iF u k i))->cx I k es u
 |[],u,y,_=>by simp at y;rw[y];simp[cx]
 |e::es,u,y,A=>by obtain⟨h1,h2⟩:=A 0 e Q;rw[(show iF u k 0=u.take k by grind[iF])]at h2;refine⟨h1,h2,aiU (by grind[Nat.add_mul]) λ i b D=>?_⟩;obtain⟨F⟩:=A (i+1) b D;grind[iF,List.drop_drop]
theorem ayX{len:R}(y:i<len)(F:lB):iF ((vv (len*k)).map F) k i=(vv k).map λ j=>F (i*k+j):=by
 have u:i*k+k<=len*k:=by have:=uI k (y);grind
 apply sI;grind[iF,List.getElem?_range,List.getElem?_eq_none]
theorem rB.rp{w:cG}{c:ye}{len:R}{dX:Da}(h:rB w k c len dX){I:Im}{id:R}(D:I id=sG k F c){es:aP}(u:es.length=len)(J:∀i e,es[i]? =O e->e.length=k/\dq I e ((vv k).map λ j=>F (i*k+j))):RP I (.sl es X) (qb id c):=by
 have y:cx I k es ((vv (len*k)).map F):=aiU (by simp[u]) λ i e K=>by grind[ayX]
 rcases h with⟨rfl,rfl⟩|⟨a,cap,rfl,rfl⟩|⟨b,off,cap,C,ty,fz,rfl,A⟩
 .exact .inl ⟨mF u,.inl Q⟩
 .exact .inl ⟨mF u,.inr Q⟩
 match len,A,y,u with
 |n+1,_,y,u=>
  refine .inr ⟨id,0,X,⟨(vv _).map F,0,0,W,V,k⟩,k,?_,D,.inr ⟨Q,Q⟩,by simp[u],?_⟩;.rw[u];rfl
  grind[PN]
def rB.afp{w:cG}{c:ye}{len:R}{dX:Da}(h:rB w k c len dX){id:R}:(qb id c).dm=true:=by
 rcases h with⟨rfl,rfl⟩|⟨a,cap,rfl,rfl⟩|⟨b,off,cap,C,ty,fz,rfl,u⟩
 .rfl
 .rfl
 match len,u with
 |n+1,_=>rfl
abbrev N6(n:R)(dX:Da):aK:=(vv n).map λ i=>vY (dX i)
abbrev Tk(n:R)(dX:Da):Ji:=(vv n).map λ i=>(vY (dX (i*2)),vY (dX (i*2+1)))
abbrev WT(n:R)(dX:Da):Sn:=(vv n).map λ i=>(vY (dX (i*3)),vY (dX (i*3+1)),vY (dX (i*3+2)))
theorem YA{f:R->α}{p:α->Prop}(h:∀i,i<n->p (f i)):∀x∈(vv n).map f,p x:=λ x hx=>by grind
theorem VP{β:Type}{f:R->α}{c:α->β}{e:β}(h:(((vv n).map f).map c)[i]? =O e):i<n/\e=c (f i):=by grind
section
variable{w:cG}{c:ye}{len:R}{dX:Da}{I:Im}{id:R}
def zQ(h:rB w 1 c len dX)(y:∀q,q<len*1->U8 (dX q))(A:I id=sG 1 (λ q=>sc (dX q)) c):RP I (.sl ((N6 len dX).map c8) X) (qb id c):=by
 refine h.rp A aw λ i e u=>?_
 obtain⟨D,rfl⟩:=VP u;refine⟨Q,?_⟩;show dq I _ [sc _];rw[(aa:i*1+0=i),EN (y i aa)];simp[dq,RP,jP]
def rp2(h:rB w 2 c len dX)(u:∀q,q<len*2->U8 (dX q))(A:I id=sG 2 (λ q=>sc (dX q)) c):RP I (.sl ((Tk len dX).map vw) X) (qb id c):=by
 refine h.rp A aw λ i e y=>?_
 obtain⟨D,rfl⟩:=VP y;refine⟨Q,?_⟩;show dq I _ [sc (dX (i*2)),sc _];rw[EN (u _ aa),EN (u (i*2+1) aa)];simp[dq,RP,jP]
def rp3(h:rB w 3 c len dX)(u:∀q,q<len*3->U8 (dX q))(A:I id=sG 3 (λ q=>sc (dX q)) c):RP I (.sl ((WT len dX).map DM) X) (qb id c):=by
 refine h.rp A aw λ i e y=>?_
 obtain⟨D,rfl⟩:=VP y;refine⟨Q,?_⟩;show dq I _ [sc (dX (i*3)),sc _,sc _];rw[EN (u _ aa),EN (u (i*3+1) aa),EN (u (i*3+2) aa)];simp[dq,RP,jP]
def b1(u:∀q,q<len*1->U8 (dX q)):∀v∈N6 len dX,tj v:=YA λ i y=>(u i aa).2
def b2(u:∀q,q<len*2->U8 (dX q)):∀p∈Tk len dX,P8 p:=YA λ i y=>⟨(u _ aa).2,(u _ aa).2⟩
def b3(u:∀q,q<len*3->U8 (dX q)):∀p∈WT len dX,LG p:=YA λ i y=>⟨(u _ aa).2,(u _ aa).2,(u _ aa).2⟩
end
end
section
open Go.ChangeShapes Go.Deep Go.RowKit Go.WideShapes
def sq(q:Nat):Nat:=if q%5=1 then 3 else 1
theorem amq(h:q%5=1):sq q=3:=by unfold sq;rw[aY h]
theorem ahQ(h:¬q%5=1):sq q=1:=by unfold sq;rw[aR h]
def ayo:0<sq q:=by unfold sq;split<;>decide
def DE(q:R):bj:=if q%5=1 then 24 else if q%5=2 then 25 else 23
section
variable{H:Type}{enc:bj×ye->H}{bB:cG}{held:mi}
set_option maxHeartbeats 1000000 in
theorem atm(ha:Q5)(al:xW af){n0 n1:R}{Z Y:ye}{x:Da}{y0 y1:ale H×B awj}
 (h0:acZ enc af bB 0 (λ _=>V) held n0 22 [Z]=O y0) (h1:acZ enc af bB 0 (λ _=>V) held n1 22 [Y]=O y1) (D:∀q,q<10->∃n y,acZ enc af bB 0 (λ _=>V) held n (DE q) [x q]=O y):
 Calls af 3 #[.agg #[Z,Y,x 0,x 1,x 2,x 3,x 4,x 5,x 6,x 7,x 8,x 9],.bool fb] bB (λ e w'=>e=.returned (.bool V)/\Below bB.heap.size bB w'):=by
 obtain⟨l0,V0,s0,f0⟩:=abz Tryz.underlying22 Tryz.underlying83 ahc Rx cB h0;obtain⟨l1,V1,s1,f1⟩:=abz Tryz.underlying22 Tryz.underlying83 ahc Rx cB h1;have u0:∀q,q<l0*2->U8 (V0 q):=λ q D=>by obtain⟨m,z,M⟩:=f0 (q/2) (q%2) aa aa;grind[S3]
 have u1:∀q,q<l1*2->U8 (V1 q):=λ q D=>by obtain⟨m,z,M⟩:=f1 (q/2) (q%2) aa aa;grind[S3]
 have e2:∀q,q<10->q%5=2->x q=.int .u64 (vY (x q)):=λ q am h2=>by obtain⟨m,z,M⟩:=D q am;rw[show DE q=25 by grind[DE]]at M;obtain⟨b,hb,_,hw⟩:=awT Tryz.underlying25 M;have hb:[x q]=[Value.int .u64 b]:=hb;simp at hb;rw[hb];rfl
 have e3:∀q,∃p:R×(R->ye),q<10->q%5≠2->rB bB (sq q) (x q) p.1 p.2/\∀j,j<p.1*sq q->U8 (p.2 j):=by
  intro q;by_cases hh:q<10/\q%5≠2
  .obtain⟨an,aq⟩:=hh;obtain⟨m,z,M⟩:=D q an;by_cases hm:q%5=1;.rw[show DE q=24 by unfold DE;rw[aY hm]]at M;obtain⟨L,N,sl,hN⟩:=abz Tryz.underlying24 Tryz.underlying90 arJ Rx cB M;refine⟨(L,N),λ _ _=>?_⟩;rw[amq hm];refine⟨sl,λ j hj=>?_⟩;obtain⟨m',z',ao⟩:=hN (j/3) (j%3) (by simp only at hj;omega) aa;grind[S3]
   rw[show DE q=23 by grind[DE]]at M;obtain⟨L,N,sl,hN⟩:=aui Tryz.underlying23 Rx M;refine⟨(L,N),λ _ _=>?_⟩;rw[ahQ hm];grind[S3]
  exact⟨(0,λ _=>.bool W),λ a b=>absurd ⟨a,b⟩ hh⟩
 obtain⟨A,ag⟩:=apP e3
 let f:R->oR:=λ v=>match v with
  |0=>sG 2 (λ q=>sc (V0 q)) Z
  |1=>sG 2 (λ q=>sc (V1 q)) Y
  |q+2=>if q%5=2 then none else sG (sq q) (λ j=>sc ((A q).2 j)) (x q)
 let ρ:dO:=λ v=>match v with
  |0=>D6 2 Z
  |1=>D6 2 Y
  |q+2=>if q<10 then D6 (sq q) (x q)else none
 let Hp:aj:=⟨Kv f 12,.nil,12⟩
 have S:∀v,v<12->Hp.ah.get v=f v:=λ v F=>by grind[Kv,get,aai]
 have K:∀v r,Hp.ah.get v=O r->v<12/\f v=O r:=λ v r J=>by grind[Kv,get,aai]
 have ad:∀v r,f v=O r->r.ro=V/\r.aI=0:=by grind[awu,sG,sq,sc]
 have P:∀q,q<10->ρ (q+2)=D6 (sq q) (x q):=λ q D=>by grind[D6,sq]
 have s:jU bB.heap.size 0 ρ Hp bB:={
  base:=aZ _
  lW:=λ g hg=>aa
  row:=λ v r J=>by
   obtain⟨F,J⟩:=K v r J
   match v,F,J with
   |0,_,J=>exact s0.row (id:=0) Q (λ q D=>acJ (u0 q D)) J
   |1,_,J=>exact s1.row (id:=1) Q (λ q D=>acJ (u1 q D)) J
   |q+2,F,J=>
    have D:q<10:=aa;have J:(if q%5=2 then none else sG (sq q) (λ j=>sc ((A q).2 j)) (x q))=O r:=J;split at J;.cases J
    rename_i hm;obtain⟨sl,hN⟩:=ag q D hm;exact sl.row (id:=q+2) (P q D) (λ j hj=>acJ (hN j hj)) J
  sep:=λ u v ru rv lu lv _ hu F _ _ _=>.inl ⟨(ad u ru (K u ru hu).2).1,(ad v rv (K v rv F).2).1⟩
  aI:=λ v r mem F h _=>by grind}
 have g:Good Hp:=by
  refine⟨λ v r J=>?_,λ fm mem u r h=>?_,λ fm mem h=>?_⟩;.grind
  .cases h
  cases h
 have r0:RP Hp.ah.get (.sl ((Tk l0 V0).map vw) none) (qb 0 Z):=rp2 s0 u0 (S 0 aa);have r1:RP Hp.ah.get (.sl ((Tk l1 V1).map vw) none) (qb 1 Y):=rp2 s1 u1 (S 1 aa);have ap:∀q,q<10->q%5≠2->Hp.ah.get (q+2)=sG (sq q) (λ j=>sc ((A q).2 j)) (x q):=λ q D hm=>by grind[sG,sq,sc]
 have ab:∀q,q<10->q%5≠2->¬q%5=1->rB bB 1 (x q) (A q).1 (A q).2/\(∀j,j<(A q).1*1->U8 ((A q).2 j))/\Hp.ah.get (q+2)=sG 1 (λ j=>sc ((A q).2 j)) (x q):=λ q D hm h1=>by grind[ahQ]
 have ak:∀q,q<10->q%5=1->rB bB 3 (x q) (A q).1 (A q).2/\(∀j,j<(A q).1*3->U8 ((A q).2 j))/\Hp.ah.get (q+2)=sG 3 (λ j=>sc ((A q).2 j)) (x q):=λ q D h1=>by grind[amq]
 have hX:∀i,i<2->Jl Hp.ah.get (N6 (A (i*5)).1 (A (i*5)).2,WT (A (i*5+1)).1 (A (i*5+1)).2,N6 (A (i*5+3)).1 (A (i*5+3)).2,N6 (A (i*5+4)).1 (A (i*5+4)).2) (qb (i*5+2) (x (i*5))) (qb (i*5+3) (x (i*5+1))) (qb (i*5+5) (x (i*5+3))) (qb (i*5+6) (x (i*5+4))):=λ i hi=>by obtain⟨a0,a1,a2⟩:=ab (i*5) aa aa aa;obtain⟨b0,ai,b2⟩:=ak (i*5+1) aa aa;obtain⟨d0,d1,d2⟩:=ab (i*5+3) aa aa aa;obtain⟨e0,e1,e2⟩:=ab (i*5+4) aa aa aa;exact⟨zQ a0 a1 a2,rp3 b0 ai b2,zQ d0 d1 d2,zQ e0 e1 e2,Abs.b1 a1,Abs.b3 ai,Abs.b1 d1,Abs.b1 e1⟩
 have F:∀q,q<10->q%5≠2->bW ρ (qb (q+2) (x q)) (x q):=λ q D hm=>(ag q D hm).1.bW ayo (P q D)
 have hk:∀q,q<10->q%5=2->bW ρ (.int .u64 (vY (x q))) (x q):=λ q D hm=>by have h:=e2 q D hm;generalize M:vY (x q)=z at h⊢;rw[h];rfl
 have hx:dS ρ [.agg (qb 0 Z::qb 1 Y::xl (λ i=>qb (i*5+2) (x (i*5))) (λ i=>qb (i*5+3) (x (i*5+1))) (λ i=>.int .u64 (vY (x (i*5+2)))) (λ i=>qb (i*5+5) (x (i*5+3))) (λ i=>qb (i*5+6) (x (i*5+4)))),.bool fb] [.agg #[Z,Y,x 0,x 1,x 2,x 3,x 4,x 5,x 6,x 7,x 8,x 9],.bool fb]:=by refine ep.2 ⟨_,_,Q,⟨[Z,Y,x 0,x 1,x 2,x 3,x 4,x 5,x 6,x 7,x 8,x 9],Q,?_⟩,ep.2 ⟨_,_,Q,Q,Q⟩⟩;exact ep.2 ⟨_,_,Q,s0.bW aa Q,ep.2 ⟨_,_,Q,s1.bW aa Q,ep.2 ⟨_,_,Q,F 0 aa aa,ep.2 ⟨_,_,Q,F 1 aa aa,ep.2 ⟨_,_,Q,hk 2 aa aa,ep.2 ⟨_,_,Q,F 3 aa aa,ep.2 ⟨_,_,Q,F 4 aa aa,ep.2 ⟨_,_,Q,F 5 aa aa,ep.2 ⟨_,_,Q,F 6 aa aa,ep.2 ⟨_,_,Q,hk 7 aa aa,ep.2 ⟨_,_,Q,F 8 aa aa,ep.2 ⟨_,_,Q,F 9 aa aa,Q⟩⟩⟩⟩⟩⟩⟩⟩⟩⟩⟩⟩
 have ac:∀v,Hp.ae<=v->ρ v=none:=by grind[D6,sq]
 refine(aFF ha al (I:=Hp.ah.get) g (λ u r e=>e) (b2 u0) (b2 u1) r0 r1 hX (k:=λ i=>vY (x (i*5+2))) s ac hx).mono λ e w' ⟨he,h1,h2,h3,h4,h5⟩=>?_
 exact⟨he,⟨h1,h2,h3,h4,h5⟩⟩
end
end
end
end Go.Abs
