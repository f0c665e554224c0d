/- The symbolic machine: its soundness. -/
import Derived.Test.YtkhnencepibcpaaGreatD
import Derived.Test.YtkhnencepibcpaaGreatH
set_option linter.all false
open Bool renaming false->W,true->V
open Go.Op renaming stringOp->ae6
open List renaming getElem?_append->aqT,map_congr_left->acL,map_replicate->asz,mem_cons_self->aju,replicate->ef,take_append_drop->ahy
open Nat renaming beq->gr
open Option renaming none->X,some->O
open _root_ renaming Bool->mi,Int->U,List->B,Nat->R,Option->gw,beq_false_of_ne->az9,rfl->Q,trivial->sp
namespace Go.Abs
noncomputable section
open Go
variable{I:Inv}{M:U}{Rqq:bC->XV->Prop}{SI:Y5}{Uqq:XT}{dX:VT}{Z':iq}{a b:jo}{args cs refs:dB}{aah:rL}{bef:jQ}{cl:Ja}{ct:Ct}{d:fV}{e:rV}{es:lT}{g i m n nm sz t y:R}{l:aa6}{r:XV×XK}{s v:XV}{s0:aG}{src:lC}{tb0:iP}{α:Type}{σ:Sub}
section
variable{l:sY}
variable{ρ ρ':bC}{C:fS}{K K':XK}
mutual
theorem aao{n:R}{σ:Sub}(h:iS n σ)(hn:0<n):∀v:XV,bD n (zh σ v)
 |.sc _=>ua
 |.int k x c=>gL (h.num hn x)
 |.bs x=>Hv (h.sym hn x)
 |.ss x=>Qf (h.sym hn x)
 |.sl x o=>tZ (h.sym hn x)
 |.sx es o=>λ ρ ρ' ha=>by show ak.sl (fH ρ (yq σ es)) o=.sl (fH ρ' (yq σ es)) o;rw[afr h hn es ρ ρ' ha]
 |.ptr _ _ _=>λ _ _ _=>rfl
 |.rp cs off=>λ ρ ρ' ha=>by show ak.rp (aT ρ (kY σ cs)) off=.rp (aT ρ' (kY σ cs)) off;rw[BH h hn cs ρ ρ' ha]
 |.ms _ _ _ _=>λ _ _ _=>rfl
 |.fn f cs=>λ ρ ρ' ha=>by show ak.fn f (aT ρ (kY σ cs))=.fn f (aT ρ' (kY σ cs));rw[BH h hn cs ρ ρ' ha]
 |.agg cs=>λ ρ ρ' ha=>by show ak.agg (aT ρ (kY σ cs))=.agg (aT ρ' (kY σ cs));rw[BH h hn cs ρ ρ' ha]
 |.bp cs=>λ ρ ρ' ha=>by show ak.bp (aT ρ (kY σ cs))=.bp (aT ρ' (kY σ cs));rw[BH h hn cs ρ ρ' ha]
 |.un=>λ _ _ _=>rfl
theorem BH{n:R}{σ:Sub}(h:iS n σ)(hn:0<n):∀v:B XV,fM n (kY σ v)
 |[]=>λ _ _ _=>rfl
 |v::l=>λ ρ ρ' ha=>by show ev ρ (zh σ v)::aT ρ (kY σ l)=ev ρ' (zh σ v)::aT ρ' (kY σ l);rw[aao h hn v ρ ρ' ha,BH h hn l ρ ρ' ha]
theorem afr{n:R}{σ:Sub}(h:iS n σ)(hn:0<n):∀v:B (B XV),∀ρ ρ':bC,dj n ρ ρ'->fH ρ (yq σ v)=fH ρ' (yq σ v)
 |[]=>λ _ _ _=>rfl
 |v::l=>λ ρ ρ' ha=>by show aT ρ (kY σ v)::fH ρ (yq σ l)=aT ρ' (kY σ v)::fH ρ' (yq σ l);rw[BH h hn v ρ ρ' ha,afr h hn l ρ ρ' ha]
end
theorem ZZ(h:iS n σ)(u:0<n)(f:ik):(Jn σ f).bd n:=by
 cases f with
 |le a b c=>exact⟨h.num u a,h.num u b⟩
 |sl x m c nm bs=>exact⟨h.sym u x,h.num u m,λ p y=>by obtain⟨q,_,rfl⟩:=lO.1 y;exact h.num u _⟩
 |str x s=>exact h.sym u x
 |bb x b=>exact h.sym u x
 |el x i c cells=>exact⟨h.sym u x,h.num u i,BH h u cells⟩
 |sum z a b c=>exact⟨h.num u z,h.num u a,h.num u b⟩
 |pr k l=>
  intro e A;obtain⟨D,_,rfl⟩:=lO.1 A;cases D with
  |i x c=>exact h.num u x
  |s x=>
   show yY n (match σ[x]?with|some e=>e|none=>.i 0 0);cases hx:σ[x]?;.exact u
   rename_i e;have:=h e (iD hx);cases e<;>exact this
theorem TB:∀(m i j:R),(fG m i)[j]? =if j<m then O (.s (i+j))else X
 |0,i,j=>rfl
 |m+1,i,0=>rfl
 |m+1,i,j+1=>by show(fG m _)[j]? =_;rw[TB m _ j];grind
def Tv:∀(m i:R),iS (i+m) (fG m i)
 |0,i=>nofun
 |m+1,i=>iS.cons aa ((Tv m _).mono aa)
theorem Wr(a b:sY)(x:R):aX (a++b) x=if x<a.length then a.getD x SV.z else aX b (x-a.length):=by grind[aX]
def amL{a b c:sY}(h:aX b=aX c):aX (a++b)=aX (a++c):=by funext x;rw[Wr,Wr,h]
def more(ρ:bC)(n:R)(l:sY):bC:=λ x=>if x<n then ρ x else l.getD (x-n) SV.z
def acx:dj n ρ (more ρ n l):=λ x hx=>by show _=if x<n then _ else _;rw[aY hx]
theorem as8(u:l.length<=m):aX ((fG m n).map (ij (more ρ n l)))=aX l:=by
 funext x;unfold aX;rw[UO,mu,TB];by_cases h:x<m;.rw[aY h];show(if n+x<n then _ else l.getD _ _)=_;grind
 grind
theorem XQ(A:cS K){i:zj}{cells:dB}(has:∀p∈aah,p.1<K.nx)(J:i.1<K.nx)(h:EV C K nm aah i=O (cells,K')):
 K.nx<=K'.nx/\cS K'/\fM K'.nx cells/\∃d,C.tb.td nm=O d/\cells.length=d.cells.length:=by
 unfold EV at h;split at h<;>try cases h
 rename_i d D;split at h<;>cases h;have u:K.nx<=K.nx+(d.k-d.p- 2):=ad6 _ _;have y:iS (K.nx+(d.k-d.p- 2)) (.i 0 0::aah.map (λ p=>.i p.1 p.2)++.i i.1 i.2::fG (d.k-d.p- 2) K.nx):=by refine iS.append (iS.cons aa λ e N=>?_) (iS.cons aa (Tv _ _));grind
 refine⟨by rw[xM];exact u,NA (RS A u) λ f M=>?_,by rw[xM];exact BH y (eU A.z u) _,d,D,?_⟩;.grind[ZZ]
 .have:∀l,(kY (.i 0 0::aah.map (λ p=>SE.i p.1 p.2)++.i i.1 i.2::fG (d.k-d.p- 2) K.nx) l).length=l.length:=by
   intro l;induction l with
   |nil=>rfl
   |cons v l F=>grind[kY]
  exact this _
theorem Vj(M:kh C.tb)(F:cS K)(D:bV C.tb ρ K){i:zj}{cells:dB}{e:be}(has:∀p∈aah,p.1<K.nx)(Y:i.1<K.nx)(h:EV C K nm aah i=O (cells,K'))
 (N:de C.tb nm (aah.map (cM ρ)) (cM ρ i) e):∃ρ',dj K.nx ρ ρ'/\bV C.tb ρ' K'/\e=aT ρ' cells:=by
 unfold EV at h;split at h<;>try cases h
 rename_i d Z;obtain⟨_,env,h1,h2,h3,h4⟩:=(iO M Z).1 N
 let u:=env.drop (d.p+2)
 have y:dj K.nx ρ (more ρ K.nx u):=acx;have J:=Ql F.z y D.z;have S:=D.qI F y
 have A:pull (more ρ K.nx u) (.i 0 0::aah.map (λ p=>.i p.1 p.2)++.i i.1 i.2::fG (d.k-d.p- 2) K.nx)=aX env:=by
  unfold pull;rw[h1,zD,nA,nA,lP,lP]
  have e2:aah.map (ij (more ρ K.nx u)∘λ p=>SE.i p.1 p.2)=aah.map ((λ n=>⟨n,W,[],[]⟩)∘cM ρ):=by
   refine mH λ p P=>?_
   show SV.mk _ _ _ _=SV.mk _ _ _ _;rw[<-y p.1 (has p P)];rfl
  rw[(show ij _ (.i 0 0)=SV.z by show SV.mk _ _ _ _=_;rw[J];rfl),e2,(show ij _ _=⟨cM ρ i,W,[],[]⟩ by show SV.mk _ _ _ _=_;rw[<-y i.1 Y];rfl)];refine amL ?_;show aX ([_]++_)=aX _;exact amL (as8 bP)
 grind[Iy,TS,Yk,Ce]
def ayO{E y:cX}(h:nJ E y)(A:∀x,x<n->∃v,E[x]? =O (O v)):y.take n=E.take n:=by
 refine sI λ x=>?_
 rw[wT,wT];by_cases hx:x<n;.obtain⟨v,u⟩:=A x hx;rw[u,h.2 x v u]
 rw[aR hx,aR hx]
structure aHU (C:fS) (m:R):Prop where
 f:∀{K:XK} {ρ:bC} {f:ik} {E E':cX},cS K->bV C.tb ρ K->gV K.nx E->QG C K m f E=some E'->qg C.tb ρ K.nx E E' λ r=>cL C.tb r f
 fs:∀{K:XK} {ρ:bC} {l:um} {E E':cX},cS K->bV C.tb ρ K->gV K.nx E->Ac C K m l E=some E'->qg C.tb ρ K.nx E E' λ r=>∀f∈l,cL C.tb r f
 el:∀{K:XK} {ρ:bC} {nm:R} {aah:rL} {i:zj} {cells:dB},cS K->bV C.tb ρ K->(∀p∈aah,p.1<K.nx)->i.1<K.nx->fM K.nx cells->EP C K m nm aah i cells=true->de C.tb nm (aah.map (cM ρ)) (cM ρ i) (aT ρ cells)
 els:∀{K:XK} {ρ:bC} {nm:R} {aah:rL} {i:R} {es:xY},cS K->bV C.tb ρ K->(∀p∈aah,p.1<K.nx)->(∀e∈es,fM K.nx e)->elems C K m nm aah i es=true->∀j e,es[j]? =some e->de C.tb nm (aah.map (cM ρ)) ((i+j:R):U) (aT ρ e)
 sub:∀{K:XK} {ρ:bC} {n' nm nm':R} {c':U} {aah as':rL},cS K->bV C.tb ρ K->(∀p∈aah,p.1<K.nx)->(∀p∈as',p.1<K.nx)->n'<K.nx->TU C K m n' c' nm' as' nm aah=true->∀(j:U) e,0<=j->j<(ρ n').i+c'->de C.tb nm' (as'.map (cM ρ)) j e->de C.tb nm (aah.map (cM ρ)) j e
def qT(u:bV C.tb ρ K){f:ik}(h:f∈K.fs):cL C.tb ρ f:=u.fs f h
theorem wj{l:B α}{e:α}(h:l[i]? =O e):i<l.length:=by grind
def aDw(u:kh tb0)(A:bV tb0 ρ K)(F:cS K){x:R}{d e:U}(hx:x<K.nx)(D:y<K.nx)(h:leD tb0 K x d y e=V):(ρ x).i+d<=(ρ y).i+e:=by
 unfold leD at h;rw[rP]at h;rcases h with h|h
 .exact eP A h
 refine u.2.2.2.le _ _ (F9 u A F (f:=.pr _ _) (λ e he=>?_) h);rcases cg.1 he with rfl|he
 .exact hx
 rw[cJ.1 he];exact D
theorem C9(ht:kh C.tb):∀m,aHU C m
 |0=>⟨λ _ _ _ h=>(by unfold QG at h;cases h),λ _ _ _ h=>(by unfold Ac at h;cases h),λ _ _ _ _ _ h=>(by unfold EP at h;cases h),λ _ _ _ _ h=>(by unfold elems at h;cases h),λ _ _ _ _ _ h=>(by unfold TU at h;cases h)⟩
 |m+1=>by
  have ih:=C9 ht m;refine⟨?_,?_,?_,?_,?_⟩
  .intro K ρ f E E' D u hE h;unfold QG at h;cases f with
   |le a b c=>
    simp only at h;split at h
    .rename_i x d y e h1 h2;split at h;.rename_i ac;cases h;refine⟨.rfl,hE,λ F A=>?_⟩;have e1:=zP (ρ:=ρ) h1 A;have e2:=zP (ρ:=ρ) h2 A;have e3:(ρ x).i+d<=(ρ y).i+e:=aDw ht u D (SM hE h1) (SM hE h2) ac;unfold cM at e1 e2;show(ft ρ F a).i<=(ft ρ F b).i+c;simp only at e1 e2;omega
     cases h
    cases h
   |bb x b=>
    simp only at h;split at h
    .rename_i b' hx;split at h;.rename_i e;cases h;refine⟨.rfl,hE,λ F A=>?_⟩;show(ft ρ F x).b=b;rw[iR (A.2 _ _ (oO hx)),e];rfl
     cases h
    .rename_i y hx;split at h
     .rename_i b' k' hv;split at h;.rename_i e;cases h;refine⟨.rfl,hE,λ F A=>?_⟩;show(ft ρ F x).b=b;rw[iR (A.2 _ _ (oO hx))];obtain⟨_,r,hr,ρ',_,_,Z⟩:=Rw D u (hE _ _ (oO hx)).bs;rw[hv,cJ]at hr;subst hr;show(ρ y).b=b;rw[<-Z,e]
      cases h
     cases h
    cases h
   |str x set=>
    simp only at h;split at h
    .rename_i s hx;split at h;.rename_i e;cases h;refine⟨.rfl,hE,λ F A=>?_⟩;show(ft ρ F x).s∈set;rw[iR (A.2 _ _ (oO hx))];exact aKk e
     cases h
    .rename_i y hx;split at h
     .rename_i l hl;split at h;.rename_i e;cases h;refine⟨.rfl,hE,λ F A=>?_⟩;show(ft ρ F x).s∈set;rw[iR (A.2 _ _ (oO hx))];unfold akE at e;rw[iw]at e;exact aKk (e _ (qT u (amy hl)))
      cases h
     cases h
    cases h
   |el x i c cells=>
    simp only at h;split at h
    .rename_i y o j d hx hj;split at h;.rename_i vs hv;have hm:=akt hv;have M:=D.fs _ hm;obtain⟨S,Y,a3⟩:=E7 u hE M.2.2 h;refine⟨S,Y,λ F A=>?_⟩;obtain⟨q,q1,q2⟩:=qT u hm;have e1:=zP (ρ:=ρ) hj (S.trans A);unfold cM at e1;refine⟨q,by rw[<-q1];exact e1,?_⟩;rw[iR ((S.trans A).2 _ _ (oO hx)),a3 F A];exact q2
     cases h
    cases h
   |sum z a b c=>cases h
   |pr k l=>
    simp only at h;split at h
    .rename_i l' hl;split at h
     .rename_i N;cases h;refine⟨.rfl,hE,λ F A=>?_⟩;obtain⟨e1,e2⟩:=ame u D hE A hl;show C.tb.pr k (l.map (ij (ft ρ F)));rw[e1];rw[rP]at N;rcases N with N|N
      .exact aDY u N
      exact F9 ht u D (f:=.pr k l') e2 N
     cases h
    cases h
   |sl x n c nm aah=>
    simp only at h;split at h
    .rename_i y o hx;split at h
     .rename_i n' c' an ar hs;have hm:=qH hs;have M:=D.fs _ hm;have hf:=qT u hm;split at h
      .rename_i E1 h1;split at h
       .rename_i bs h2;split at h<;>try cases h
        rename_i N;obtain⟨S,Y,a3⟩:=FP u hE M.2.1 h1;refine⟨S,Y,λ F A=>?_⟩;have ex:ft ρ F x=ρ y:=iR ((S.trans A).2 _ _ (oO hx));refine⟨?_,λ i e J=>?_⟩;.rw[ex,a3 F A];exact hf.1
        rw[ex]at J;rw[XZ A h2];have ai:=hf.2 i e J;rw[rP,rP]at N;rcases N with(N|N)|hd
        .grind[Nat.eq_of_beq_eq_true,aeg]
        .refine ih.sub D u (Qt Y h2) M.2.2 M.2.1 N i e (ad5 _) ?_ ai;have:=wj J;have:=hf.1;omega
        exact(F9 ht u D (f:=.sl y n' c' nm bs) ⟨M.1,M.2.1,Qt Y h2⟩ hd).2 i e J
       cases h
      cases h
     cases h
    .rename_i es o hx;split at h
     .rename_i E1 h1;split at h
      .rename_i bs h2;split at h
       .rename_i N;cases h;obtain⟨S,Y,a3⟩:=FP u hE D.z h1;refine⟨S,Y,λ F A=>?_⟩;have ex:ft ρ F x=⟨0,W,[],fH ρ es⟩:=iR ((S.trans A).2 _ _ (oO hx));have hz:(ρ 0).i=0:=by rw[u.z];rfl
        refine⟨?_,λ i e J=>?_⟩;.grind[qS]
        rw[ex]at J;rw[XZ A h2];rw[qS,mu]at J;cases P:es[i]?;.rw[P]at J;cases J
        rename_i e0;rw[P]at J;cases J;have:=ih.els D u (Qt Y h2) (hE _ _ (oO hx)).sx N i e0 P;grind
       cases h
      cases h
     cases h
    cases h
  .intro K ρ l E E' D u hE h;unfold Ac at h;cases l;.cases h;exact⟨.rfl,hE,λ _ _ f hf=>bk⟩
   rename_i f l;simp only at h;split at h
   .rename_i E1 h1;obtain⟨S,Y,a3⟩:=ih.f D u hE h1;obtain⟨b1,b2,b3⟩:=ih.fs D u Y h;refine⟨S.trans b1,b2,λ F A g hg=>?_⟩;rcases cg.1 hg with rfl|hg
    .exact a3 F (b1.trans A)
    exact b3 F A g hg
   cases h
  .intro K ρ nm aah i cells D u has hi ad h;unfold EP at h;split at h
   .rename_i d hd;split at h
    .rename_i Z;split at h
     .rename_i E h1;have ap:gV K.nx (O (.int .i64 0 0)::aah.map (λ p=>O (XV.int .i64 p.1 p.2))++O (.int .i64 i.1 i.2)::ef (d.k-d.p- 2) X):=by intro x v hx;grind[gL]
      obtain⟨S,Y,a3⟩:=E7 u ap ad h1;rw[tN]at h;obtain⟨E',h2⟩:=h;obtain⟨b1,b2,b3⟩:=ih.fs D u Y h2;have ac:=S.trans b1;have au:=(ht.1 nm d hd).2;refine(iO ht hd).2 ⟨by rw[br];exact Z,E'.map (mW ρ),?_,?_,(a3 E' b1).symm,b3 E' .rfl⟩
      .have ah:E'.take (d.p+2)=O (XV.int .i64 0 0)::aah.map (λ p=>O (XV.int .i64 p.1 p.2))++[O (.int .i64 i.1 i.2)]:=by
        rw[ayO ac];.have ae:(O (XV.int .i64 0 0)::aah.map (λ p=>O (XV.int .i64 p.1 p.2))).length=d.p+1:=bP;rw[US,ae,mT (by rw[ae];omega)];rw[(aa:d.p+2-(d.p+1)=1)];rfl
        grind
       have ab:E'.map (mW ρ)=(E'.take (d.p+2)).map (mW ρ)++(E'.map (mW ρ)).drop (d.p+2):=by grind[List.map_drop,ahy]
       have hz:mW ρ (O (.int .i64 0 0))=SV.z:=by show SV.mk _ _ _ _=_;rw[u.z];rfl
       have hm:(aah.map (λ p=>O (XV.int .i64 p.1 p.2))).map (mW ρ)=(aah.map (cM ρ)).map (λ n=>⟨n,W,[],[]⟩):=by rw[lP,lP];rfl
       conv=>lhs;rw[ab]
       rw[ah,zD,nA,hz,hm];rw[KM];rfl
      rw[br,<-ac.1,kQ,rO,rO,br,mw,Z];omega
     cases h
    cases h
   cases h
  .intro K ρ nm aah i es D u has P h j e J;unfold elems at h;cases es;.simp at J
   rename_i e0 es;simp only at h;rw[bq]at h;cases j
   .simp at J;subst J;have:=ih.el D u has (i:=(0,(i:U))) D.z (P _ dJ) h.1;have hz:(ρ 0).i=0:=by rw[u.z];rfl
    grind[cM]
   rename_i j;have:=ih.els D u has (λ e' h'=>P e' (cV _ h')) h.2 j e J;grind
  intro K ρ n' nm an c' aah ar D u has al hn h j e h0 h1 hs;unfold TU at h;split at h
  .rename_i cells K' hi
   let ρ1:=tY ρ K.nx j
   have ag:dj K.nx ρ ρ1:=yL;have ej:(ρ1 K.nx).i=j:=yR;have ao:(ρ1 0).i=0:=by rw[<-ag 0 D.z,u.z];rfl
   have hl:K.nx<K.new.nx:=kF _;have ak:cS ((K.new.add 0 0 K.nx 0).add K.nx 1 n' c'):=jJ (jJ (sk D) (AZ _) hl) hl (jc hn);have af:=λ p Z=>jc (al p Z)
   have aj:=λ p Z=>jc (has p Z)
   obtain⟨q1,q2,q3,_⟩:=XQ ak af hl hi;have aq:cM ρ1 (K.nx,0)=j:=by show(ρ1 K.nx).i+0=j;rw[ej,fJ]
   obtain⟨am,g1,g2,g3⟩:=Vj ht ak (kg (kg (si (u.qI D ag)) (by rw[ej,ao];omega)) (by rw[ej,(ag n' hn).symm];omega)) af hl hi (e:=e) (by grind[Ar]);have:=ih.el q2 g2 (λ p Z=>eU (aj p Z) q1) (i:=(K.nx,0)) (eU hl q1) q3 h;rw[<-g3]at this;have e1:=((Ar ag has).trans (Ar g1 aj)).symm;have e2:cM am (K.nx,0)=j:=by rw[<-LI g1 (p:=(K.nx,0)) hl];exact aq
   grind
  cases h
end
section
variable{es:xY}{hi lo:kt}{j o:R}{op:BinOp}{str:mi}{t:bj}
variable{ρ ρ':bC}{C:fS}{K K':XK}{P:aA}
def aca{n:U}(h:0<=n):∃j:R,n=j:=⟨n.toNat,(Int.toNat_of_nonneg h).symm⟩
def Cs{k:jT}{n:U}(h:n=j):G4 (.sc (.int k n))=O j:=by subst h;rfl
def Kw(h:fM n cs):bD n (.rp cs o):=λ ρ ρ' u=>by show ak.rp _ _=.rp _ _;rw[h ρ ρ' u]
theorem PT(h:fM n cs):bD n (.agg cs):=λ ρ ρ' u=>by show ak.agg _=.agg _;rw[h ρ ρ' u]
def aFB(h:fM n cs):bD n (.bp cs):=λ ρ ρ' u=>by show ak.bp _=.bp _;rw[h ρ ρ' u]
def afB{f:R}(h:fM n cs):bD n (.fn f cs):=λ ρ ρ' u=>by show ak.fn _ _=.fn _ _;rw[h ρ ρ' u]
theorem Hz{o:bA}(h:∀e∈es,fM n e):bD n (.sx es o):=λ ρ ρ' y=>by show ak.sl _ _=.sl _ _;rw[qS,qS,mH λ e u=>h e u ρ ρ' y]
theorem BQ(l:dB):(aT ρ l).length=l.length:=by rw[gq,br]
theorem acq(l:xY):(fH ρ l).length=l.length:=by rw[qS,br]
abbrev asx(sl:bA)(u:lY)(x ix:ak):bC->XV->Prop:=λ ρ' v=>rD sl u x ix=O (ev ρ' v)
def aDK(D:bV C.tb ρ K){c:U}{cells:dB}(h:alH K y i c=O cells):∃j d,ik.el y j d cells∈K.fs/\(ρ i).i+c=(ρ j).i+d:=by
 obtain⟨f,F,h⟩:=Ez h;split at h<;>try cases h
 rename_i J j d cs;split at h;.rename_i u;have u:=cI u;subst u;split at h<;>cases h;rename_i A;rw[bq]at A;have h1:=eP D A.1;have h2:=eP D A.2;exact⟨j,d,F,aa⟩
 cases h
theorem ao8(ht:kh C.tb)(D:cS K)(A:bV C.tb ρ K){sl:bA}{ar:lY}{x ix:XV}(hx:bD K.nx x)(hi:bD K.nx ix)(h:OQ C K sl ar x ix=O l):
 il C.tb ρ K bD (asx sl ar (ev ρ x) (ev ρ ix)) l:=by
 have hz:(ρ 0).i=0:=by rw[A.z];rfl
 unfold OQ at h;split at h
 .rename_i y o k i c;split at h<;>try cases h
  rename_i sz n d nm aah hs;split at h<;>try cases h
  rename_i S;rw[bq]at S;have h1:=eP A S.1;have h2:=eP A S.2;rw[hz]at h1;obtain⟨j,P⟩:=aca (aa:0<=(ρ i).i+c);have hm:=qH hs;have hf:=qT A hm;have ab:=D.fs _ hm;have u:j<(ρ y).l.length:=by have:=hf.1;omega
  have N:=eg u;have xo:∀e:be,(ρ y).l[j]? =O e->e.length=sz->rD (O sz) ar (.sl (ρ y).l o) (.sc (.int k ((ρ i).i+c)))=O (.rp e 0):=by intro e N F;unfold rD;rw[Cs P];simp only[N,aY F]
  split at h
  .rename_i cells ae;split at h;.rename_i F;cases h;have J:=akt ae;obtain⟨q,q1,q2⟩:=qT A J;have:q=j:=aa;subst this;refine ju D (Kw (D.fs _ J).2.2) A ?_;exact xo _ q2 (by rw[BQ];exact F)
   cases h
  split at h
  .rename_i cells heq;split at h;.rename_i F;cases h;obtain⟨j',d',J,hq⟩:=aDK A heq;have ac:=(D.fs _ J).2.2;obtain⟨q,q1,q2⟩:=qT A J;have:q=j:=aa;subst this;refine rU (ρ':=ρ) (by rw[px];exact aZ _) (vk D ⟨hx.sl,hi.int,ac⟩) (by rw[px];exact Kw ac) .rfl (vJ A ⟨q,P,q2⟩) ?_;exact xo _ q2 (by rw[BQ];exact F)
   cases h
  split at h
  .rename_i cells K' Z;split at h
   .rename_i F;cases h;have ad:cM ρ (i,c)=j:=P;obtain⟨q1,q2,q3,_⟩:=XQ D ab.2.2 hi.int Z;obtain⟨Y,g1,g2,g3⟩:=Vj ht D A ab.2.2 hi.int Z (by rw[ad];exact hf.2 j _ N);refine rU (ρ':=Y) (by rw[px];exact q1) (vk q2 ⟨eU hx.sl q1,eU hi.int q1,q3⟩) (by rw[px];exact Kw q3) g1 (vJ g2 ⟨j,?_,?_⟩) ?_;.rw[<-g1 i hi.int];exact P
    .rw[<-g1 y hx.sl,N,g3]
    show rD _ _ _ _=O (ak.rp (aT Y cells) 0);rw[<-g3];exact xo _ N (by rw[g3,BQ];exact F)
   cases h
  cases h
 .rename_i es o k i c;split at h<;>try cases h
  rename_i sz;have xo:∀(j:R) (e:dB),(ρ i).i+c=j->es[j]? =O e->e.length=sz->rD (O sz) ar (.sl (fH ρ es) o) (.sc (.int k ((ρ i).i+c)))=O (.rp (aT ρ e) 0):=by intro j e P N F;unfold rD;rw[Cs P];grind[qS,BQ]
  split at h
  .rename_i M;have M:=cI M;subst M;split at h
   .rename_i j;split at h
    .rename_i e N;split at h;.rename_i F;cases h;exact ju D (Kw (hx.sx e (iD N))) A (xo j e (by rw[hz];simp) N F)
     cases h
    cases h
   cases h
  split at h
  .rename_i S;rw[bq,bq]at S;cases h;have h1:=eP A S.1.1;have h2:=eP A S.1.2;obtain⟨j,P⟩:=aca (aa:0<=(ρ i).i+c);have u:j<es.length:=aa;refine⟨λ r hr=>?_,(.rp es[j] 0,(K.add i c 0 j).add 0 j i c),?_,ρ,.rfl,kg (kg A aa) aa,?_⟩;.obtain⟨p,hp,rfl⟩:=lO.1 hr;refine⟨aZ _,jJ (jJ D hi.int D.z) D.z hi.int,?_⟩;exact Kw (hx.sx _ (List.fst_mem_of_mem_zipIdx hp))
   .refine lO.2 ⟨(es[j],j),?_,Q⟩;grind
   have F:=(iw.1 S.2) es[j] (qP u);exact xo j _ P (eg u) (by simpa using F)
  cases h
 .rename_i d k off ki i c;split at h
  .rename_i n sz;split at h
   .rename_i M;have M:=cI M;subst M;split at h
    .rename_i j;split at h;.rename_i u;cases h;refine ju D (λ _ _ _=>rfl) A ?_;show rD _ _ (.ptr d k off) (.sc _)=_;unfold rD;rw[Cs (j:=j) (by rw[hz];simp)];simp only[aY u];rfl
     cases h
    cases h
   cases h
  cases h
 .rename_i cs off ki i c;split at h
  .rename_i n sz;split at h
   .rename_i M;have M:=cI M;subst M;split at h
    .rename_i j;split at h
     .rename_i u;cases h;refine ju D (λ ρ ρ' ha=>?_) A ?_;.have:=hx ρ ρ' ha;grind[ev]
      show rD _ _ (.rp (aT ρ cs) off) (.sc _)=_;unfold rD;rw[Cs (j:=j) (by rw[hz];simp)];simp only[aY u];rfl
     cases h
    cases h
   cases h
  cases h
 .cases h
def ahd:∀{l:qF} {s:jo},s∈l->s.length<=Zu l
 |a::l,s,h=>by
  rcases cg.1 h with rfl|h
  .exact wU _ _
  exact fI (ahd h) (uK _ _)
def aBY(D:∀t,C.st t=V->P.underlying t=O .string)(u:cS K)(A:bV C.tb ρ K){sl:mi}{t:R}{x:XV}(hx:bD K.nx x)(h:xLn C K sl t x=O r):
 il C.tb ρ K bD (λ ρ' v=>Hj P sl t (ev ρ x)=O (ev ρ' v)) [r]:=by
 have F:(ρ 0).i=0:=by rw[A.z];rfl
 unfold xLn at h;split at h
 .rename_i y;split at h<;>cases h;rename_i l e J;have hm:=ahd (qT A (amy J))
  let ρ2:=tY ρ K.nx ((ρ y).s.length)
  have M:(ρ2 _).i=((ρ y).s.length):=yR;have S:dj _ ρ ρ2:=yL;have Y:(ρ2 0).i=0:=by rw[<-S 0 u.z];exact F
  have N:K.nx<K.new.nx:=kF _;refine rU (mS _) (jJ (jJ (sk u) (AZ _) N) N (AZ _)) (gL N) S (kg (kg (si (A.qI u S)) ?_) ?_) ?_;.omega
  .omega
  show(match dh P t _ with|some r=>lZ r|none=>X)=O (ak.sc _);rw[M];unfold dh;rw[D t e];rfl
 .split at h<;>cases h;rename_i e;refine ju u (gL u.z) A ?_;show(match dh P t _ with|some r=>lZ r|none=>X)=O (ak.sc _);rw[F,zF];unfold dh;rw[D t e];rfl
 .split at h<;>cases h;refine ju u (gL u.z) A ?_;show O (ak.sc _)=O (.sc _);rw[F,zF,acq]
 .split at h<;>cases h;rename_i n c nm aah J;refine ju u (gL (u.fs _ (qH J)).2.1) A ?_;show O (ak.sc _)=O (.sc _);rw[(qT A (qH J)).1]
 .split at h<;>cases h;refine ju u (gL u.z) A ?_;show O (ak.sc _)=O (.sc _);rw[F,zF]
 .cases h
def GP(ρ:bC)(x:R)(l:aP):bC:=λ y=>if y=x then⟨0,W,[],l⟩else ρ y
def Za{x:R}{l:aP}:dj x ρ (GP ρ x l):=λ y u=>by show _=if y=x then _ else _;rw[aR (by omega)]
theorem Cq{x:R}{l:aP}:(GP ρ x l x).l=l:=by show(if x=x then _ else _:SV).l=_;rw[aY Q]
theorem Ty(u:kh C.tb){c:U}{d:ym}(J:C.tb.td nm=O d)(D:cL C.tb ρ (.sl y n c nm aah))(A:d.cells.length=sz):km sz (ρ y).l=true:=by unfold km;rw[iw];intro e F;obtain⟨i,hi⟩:=Cz F;rw[aF0 u J (D.2 i e hi),A];simp
theorem Tl(h:es.all (λ e=>e.length==sz)=true):km sz (fH ρ es)=true:=by grind[km,qS,BQ]
def aIU{K:XK}{x:R}{c:U}{l:xY}:(Du K x y n c l).nx=K.nx:=by
 unfold Du;split;.rw[px,px]
 rw[px]
def ax6{K:XK}{x:R}{c:U}{l:xY}(F:cS K)(hx:x<K.nx)(u:y<K.nx)(A:n<K.nx)(D:∀e∈l,fM K.nx e):cS (Du K x y n c l):=by
 have h1:cS (K.fact (.pr 107 [.s y,.s x])):=vk F λ e he=>by
  rcases cg.1 he with rfl|he
  .exact u
  rw[cJ.1 he];exact hx
 unfold Du;split;.rename_i e;exact vk h1 ⟨hx,A,D e (cJ.2 Q)⟩
 exact h1
def az7{tb:iP}(J:Yi tb){K:XK}{x:R}{c:U}{l:xY}{u ρ0:bC}(F:bV tb u K)(hx:(u x).l=(u y).l++fH ρ0 l)(A:(u n).i+c=((u y).l.length:U))(D:∀e∈l,aT ρ0 e=aT u e):bV tb u (Du K x y n c l):=by
 have h1:bV tb u (K.fact (.pr _ [.s y,.s x])):=vJ F (J.Xi (u y) (u x) λ i e h=>by rw[hx,AV (pC.1 h).1];exact h)
 unfold Du;split;.rename_i e;refine vJ h1 ⟨(u y).l.length,A,?_⟩;rw[hx,uH (aZ _),UE,<-D e (cJ.2 Q)];rfl
 exact h1
def aCR:ae6 .eql ⟨⟨a⟩⟩ ⟨⟨b⟩⟩=Sem.pure (.bool (a==b)):=by simp[ae6];rfl
def aq6:ae6 .neq ⟨⟨a⟩⟩ ⟨⟨b⟩⟩=Sem.pure (.bool (!(a==b))):=by simp[ae6];rfl
def aIA{P:aA}:fU P .eql t (.sc (.str a)) (.sc (.str b))=O (.sc (.bool (a==b))):=by show(match uB (ae6 .eql _ _)with|O r=>lZ r|X=>X)=_;rw[aCR];rfl
def apZ{P:aA}:fU P .neq t (.sc (.str a)) (.sc (.str b))=O (.sc (.bool (!(a==b)))):=by show(match uB (ae6 .neq _ _)with|O r=>lZ r|X=>X)=_;rw[aq6];rfl
def aFj{P:aA}{t:bj}(F:kh C.tb)(M:cS K)(J:bV C.tb ρ K){x y:XV}(hx:bD K.nx x)(Y:bD K.nx y)(h:Yc C K op x y=O l):
 il C.tb ρ K bD (yh P op t (ev ρ x) (ev ρ y)) l:=by
 unfold Yc at h;split at h
 .rename_i b u;split at h
  .rename_i ag;split at h
   .rename_i e A;cases h;unfold ahm at A;split at A
    .rename_i k a c k' N d;split at A<;>try cases A
     rename_i Z;subst Z;have ha:=hx.int;have ab:=Y.int
     have sb:∀z,ik.bd K.nx (.pr z [.i a c,.i N d]):=λ z e he=>by
      rcases cg.1 he with rfl|he
      .exact ha
      rw[cJ.1 he];exact ab
     have fin:∀v:mi,e=v->v=decide ((ρ a).i+c=(ρ N).i+d)->il C.tb ρ K bD (yh P op t (ev ρ (.int k a c)) (ev ρ (.int k N d))) [(.sc (.bool (e==b)),ML e (.int k a c) (.int k N d) K)]:=by
      rintro v rfl h2
      have af:cS (ML e (.int k a c) (.int k N d) K):=by
       cases e;.exact M
       exact jJ (jJ M ha ab) ab ha
      have ad:bV C.tb ρ (ML e (.int k a c) (.int k N d) K):=by
       cases e;.exact J
       have h3:=jL h2.symm;exact kg (kg J aa) aa
      refine rU (by rw[(show(ML e _ _ K).nx=K.nx by cases e<;>rfl)];exact aZ _) af ua .rfl ad ?_;rw[h2];unfold Dd at u;split at u;.cases u;refine Eq.trans (OU) ?_;cases decide ((ρ a).i+c=(ρ N).i+d)<;>rfl
      .cases u;refine Eq.trans (R3) ?_;cases decide ((ρ a).i+c=(ρ N).i+d)<;>rfl
      cases u
     split at A;.rename_i hd;cases A;exact fin V Q (by simp[F.2.2.2.eq _ _ (F9 F J M (sb 104) hd)])
     split at A<;>try cases A
     rename_i hd;exact fin W Q (by simp[F.2.2.2.ne _ _ (F9 F J M (sb 105) hd)])
    .rename_i a N;split at A<;>try cases A
     rename_i hd
     have:=F9 F J M (f:=.pr 106 _) (λ e he=>by
      rcases cg.1 he with rfl|he
      .exact hx.ss
      rw[cJ.1 he];exact Y.ss) hd
     have S:(ρ a).s≠(ρ N).s:=F.2.2.2.nes _ _ this;refine ju M ua J ?_;unfold Dd at u;split at u;.cases u;exact(aIA).trans (by rw[az9 S];rfl)
     .cases u;exact(apZ).trans (by rw[az9 S];rfl)
     cases u
    cases A
   unfold neF at h;split at h
   .rename_i k a c k' a' c' p r K' ah hl;split at h
    .rename_i hc;cases h;rw[bq]at hc;have Z:k=k':=eq_of_beq hc.1;subst Z;obtain⟨h1,q,hq,ρ',g1,g2,g3⟩:=KS F.2.2.1 M J hx Y hl;have D:=h1 (.sc (.bool r),K') aw;have ha:=hx.int;have ac:=Y.int
     have bd:cS (K'.fact (.pr 105 [.i a c,.i a' c'])):=vk D.2.1 λ e he=>by
      rcases cg.1 he with rfl|he
      .exact eU ha D.1
      rw[cJ.1 he];exact eU ac D.1
     refine⟨λ w hw=>?_,?_⟩
     .rcases cg.1 hw with rfl|hw
      .exact h1 _ dJ
      rw[cJ.1 hw];exact⟨D.1,bd,D.2.2⟩
     rcases cg.1 hq with rfl|hq
     .exact⟨_,dJ,ρ',g1,g2,g3⟩
     rw[cJ.1 hq]at g2 g3
     have ae:cL C.tb ρ' (.pr 105 _)->il C.tb ρ K bD _ [p,(.sc (.bool r),K'.fact _)]:=λ hh=>
      ⟨λ w hw=>by
       rcases cg.1 hw with rfl|hw
       .exact h1 _ dJ
       rw[cJ.1 hw];exact⟨D.1,bd,D.2.2⟩,_,cV _ (cJ.2 Q),ρ',g1,vJ g2 hh,g3⟩
     refine(ae ?_).2
     have S:(ρ a).i+c≠(ρ a').i+c':=by
      intro e;unfold Dd at u;split at u;.cases u;cases (OU).symm.trans g3;simp[e]at hc
      .cases u;cases (R3 (P:=P) (t:=t) (k:=k)).symm.trans g3;simp[e]at hc
      cases u
     show C.tb.pr 105 [ij ρ' (.i a c),ij ρ' _];rw[(show ij ρ' (.i a c)=⟨(ρ a).i+c,W,[],[]⟩ by show SV.mk _ _ _ _=_;rw[g1 a ha]),(show ij ρ' _=⟨(ρ a').i+c',W,[],[]⟩ by show SV.mk _ _ _ _=_;rw[g1 a' ac])];exact F.2.2.2.neI _ _ S
    exact KS F.2.2.1 M J hx Y h
   exact KS F.2.2.1 M J hx Y h
  exact KS F.2.2.1 M J hx Y h
 .exact KS F.2.2.1 M J hx Y h
def aGK(J:kh C.tb)(F:cS K)(u:bV C.tb ρ K){x:XV}(D:bD K.nx s)(h:aaI C K sz s x=O v):
 il C.tb ρ K bD (λ ρ' w=>NW sz (ev ρ s) (ev ρ x)=O (ev ρ' w)) [(v,K)]:=by
 have h0:∀k,ev ρ (.int k 0 (.ofNat 0))=.sc (.int k (.ofNat 0)):=λ k=>by show ak.sc _=_;rw[(show(ρ 0).i=0 by rw[u.z];rfl)];rfl
 unfold aaI at h;split at h;.split at h<;>cases h;rename_i A;refine ju F D u ?_;rw[h0];show(if km sz _=V then O _ else X)=_;rw[aY (Tl A)];rfl
 .split at h<;>try cases h
  rename_i n c nm aah y;split at h;.rename_i d M;split at h<;>cases h;rename_i A;refine ju F D u ?_;rw[h0];show(if km sz _=V then O _ else X)=_;rw[aY (Ty J M (qT u (qH y)) A)];rfl
  cases h
 .cases h
theorem aab(ht:kh C.tb)(P:cS K)(J:bV C.tb ρ K){x:XV}(hs:bD K.nx s)(hx:bD K.nx x)(h:NK C K sz s x=O r):
 il C.tb ρ K bD (λ ρ' v=>qt s0 sz (ev ρ s) (ev ρ x)=O (ev ρ' v)) [r]:=by
 have hz:(ρ 0).i=0:=by rw[J.z];rfl
 unfold NK at h;split at h
 .rename_i es z new o;split at h
  .rename_i hc;cases h;refine ju P (Hz λ e A=>?_) J ?_
   .rcases wa.1 A with q|q
    .exact hs.sx e q
    exact hx.sx e q
   show(if(z=sz\/(z=0/\fH ρ es=[]))/\(fH ρ es).length+(fH ρ new).length<=1073741824/\km sz (fH ρ new)=V then O (ak.sl (fH ρ es++fH ρ new) (O sz))else X)=O (.sl (fH ρ (es++new)) (O sz));grind[qS,Tl]
  cases h
 .rename_i es z y o;split at h
  .rename_i n c nm aah af;split at h
   .rename_i d hd;split at h
    .rename_i hc;cases h;obtain⟨c1,c2,c3,c4⟩:=hc;have hf:=qT J (qH af);have S:=eP J c4;rw[hz]at S;unfold maxLen at S;have aI:es=[]:=mF c1;subst aI;refine ju P (tZ hx.sl) J ?_;show(if(z=sz\/(z=0/\([]:aP)=[]))/\0+(ρ y).l.length<=1073741824/\km sz (ρ y).l=V then O (ak.sl ([]++(ρ y).l) (O sz))else X)=O (.sl (ρ y).l (O sz));rw[aY];.rfl
     refine⟨?_,?_,Ty ht hd hf c3⟩;.grind
     have:=hf.1;omega
    cases h
   cases h
  cases h
 .rename_i y z new o;split at h
  .rename_i n c nm aah af;split at h
   .rename_i hc;cases h;obtain⟨c1,c2,c3,c4⟩:=hc;subst c1;have hm:=qH af;have hf:=qT J hm;have u:=P.fs _ hm;have S:=eP J c3;rw[hz]at S;unfold maxLen at S;have ar:=hf.1;have F:dj K.nx ρ (GP ρ K.nx ((ρ y).l++fH ρ new)):=Za;have aj:(Du (K.new.fact (.sl K.nx n (c+new.length) nm aah)) K.nx y n c new).nx=K.new.nx:=by rw[aIU,px]
    refine rU (by rw[aj];exact mS _) (ax6 (vk (sk P) ⟨kF _,jc u.2.1,λ p Z=>jc (u.2.2 p Z)⟩) (by rw[px];exact kF _) (by rw[px];exact jc u.1) (by rw[px];exact jc u.2.1) λ e A=>by rw[px];exact(hx.sx e A).mono (mS _)) (by rw[aj];exact tZ (kF _)) F (az7 ht.2.2.2 (vJ (si (J.qI P F)) ⟨?_,λ i e A=>?_⟩) (by rw[Cq,<-F y u.1]) (by rw[<-F y u.1,<-F n u.2.1];exact ar.symm) λ e A=>(hx.sx e A) _ _ F) ?_;.rw[Cq,<-F n u.2.1,kQ,acq];omega
    .rw[Cq]at A;rw[<-Ar F u.2.2];rw[aqT]at A;split at A;.exact hf.2 i e A
     rename_i aL;rw[qS,mu]at A;cases aa:new[i-(ρ y).l.length]?;.rw[aa]at A;cases A
     rename_i e0;rw[aa]at A;cases A;have an:(e0,i-(ρ y).l.length)∈new.zipIdx:=aKl.2 aa;have:=iw.1 c4 _ an;have h5:=(C9 ht cF).el P J u.2.2 u.2.1 (hx.sx e0 (iD aa)) this;grind[cM]
    show(if(z=z\/(z=0/\(ρ y).l=[]))/\(ρ y).l.length+(fH ρ new).length<=1073741824/\km z (fH ρ new)=V then O (ak.sl ((ρ y).l++fH ρ new) (O z))else X)=O (.sl _ (O z));grind[Cq,acq,Tl]
   cases h
  cases h
 .rename_i y z x o;split at h<;>try cases h
  rename_i n c nm aah n' c' aC aK aF aE;split at h<;>try cases h
  rename_i d hd;split at h<;>try cases h
  rename_i hc;obtain⟨c1,c2⟩:=hc;subst c1;split at h<;>try cases h
  rename_i cells K' hh aM av hu aD;split at h<;>try cases h
  rename_i ah;rw[bq]at ah;have aH:=AM ah.1;unfold maxLen at aH;have ap:=qH aF;have ao:=qH aE;have ax:=qT J ap;have aw:=qT J ao;have N:=P.fs _ ap;have ab:=P.fs _ ao;have u1:=Jb J hu;have u2:=Jb J aD;have l1:=ax.1;have l2:=aw.1
  have ae:∀(i k:R) e,de C.tb aC (aK.map (cM ρ)) i e->de C.tb nm (aah.map (cM ρ)) (k:U) e:=by
   intro i k e hr
   let ρ1:=tY (tY ρ K.nx i) (K.nx+1) k
   have Y:dj (K.nx+1) (tY ρ K.nx i) ρ1:=yL;have F:dj K.nx ρ ρ1:=yL.trans Y (mS _);have ei:(ρ1 K.nx).i=i:=by rw[<-Y K.nx (kF _)];exact yR
   have ek:(ρ1 (K.nx+1)).i=k:=yR;have ai:(ρ1 0).i=0:=by rw[<-F 0 P.z];exact hz
   have au:0<K.new.new.nx:=AZ _;have D:K.nx<K.new.new.nx:=jc (kF _);have M:K.nx+1<K.new.new.nx:=kF _;have az:cS ((K.new.new.add 0 0 K.nx 0).add 0 0 (K.nx+1) 0):=jJ (jJ (sk (sk P)) au D) au M;have ad:=λ p Z=>jc (jc (ab.2.2 p Z))
   have ay:=λ p Z=>jc (jc (N.2.2 p Z))
   obtain⟨q1,q2,q3,_⟩:=XQ az ad D av;have aJ:cM ρ1 (K.nx,0)=i:=by show(ρ1 K.nx).i+0=_;rw[ei,fJ]
   obtain⟨aB,g1,g2,g3⟩:=Vj ht az (kg (kg (si (si (J.qI P F))) (by rw[ei,ai];omega)) (by rw[ek,ai];omega)) ad D av (e:=e) (by rw[aJ,<-Ar F ab.2.2];exact hr);have h5:=(C9 ht cF).el q2 g2 (λ p Z=>eU (ay p Z) q1) (i:=(K.nx+1,0)) (eU M q1) q3 ah.2;rw[<-g3]at h5;have e2:cM aB (K.nx+1,0)=k:=by rw[<-LI g1 (p:=(K.nx+1,0)) M];show(ρ1 (K.nx+1)).i+0=_;rw[ek,fJ]
   rw[((Ar F N.2.2).trans (Ar g1 ay)).symm,e2]at h5;exact h5
  let L:=(ρ y).l++(ρ x).l
  let ρ1:=GP (tY ρ K.nx L.length) (K.nx+1) L
  have Y:dj (K.nx+1) (tY ρ K.nx L.length) ρ1:=Za;have F:dj K.nx ρ ρ1:=yL.trans Y (mS _);have en:(ρ1 K.nx).i=L.length:=by rw[<-Y K.nx (kF _)];exact yR
  have el:(ρ1 (K.nx+1)).l=L:=Cq;have aN:(L.length:U)=(ρ n).i+c+((ρ n').i+c'):=bP;have am:ρ1 n=ρ n:=(F n N.2.1).symm;have al:ρ1 n'=ρ n':=(F n' ab.2.1).symm;have D:K.nx<K.new.new.nx:=jc (kF _);have M:K.nx+1<K.new.new.nx:=kF _;have aq:n<K.new.new.nx:=jc (jc N.2.1);have ac:n'<K.new.new.nx:=jc (jc ab.2.1);refine rU (ρ':=ρ1) ?_ (vk (jJ (jJ (jJ (jJ (sk (sk P)) D aq) D ac) aq D) ac D) ⟨M,D,λ p Z=>jc (jc (N.2.2 p Z))⟩) ?_ F (vJ (kg (kg (kg (kg (si (si (J.qI P F))) ?_) ?_) ?_) ?_) ⟨?_,λ i e A=>?_⟩) ?_;.rw[px];exact Nat.le_succ_of_le (mS _)
  .rw[px];exact tZ M
  .rw[en,am];omega
  .rw[en,al];omega
  .rw[en,am];omega
  .rw[en,al];omega
  .rw[el,en];omega
  .rw[el]at A;rw[<-Ar F N.2.2];rw[aqT]at A;split at A;.exact ax.2 i e A
   exact ae _ i e (aw.2 _ e A)
  show(if(z=z\/(z=0/\(ρ y).l=[]))/\(ρ y).l.length+(ρ x).l.length<=1073741824/\km z (ρ x).l=V then O (ak.sl ((ρ y).l++(ρ x).l) (O z))else X)=O (.sl (ρ1 (K.nx+1)).l (O z));grind[Ty]
 .cases h
def aGx(h:bD n (.rp cs o)):fM n cs:=λ ρ ρ' u=>by injection(h ρ ρ' u)
def acM{α:Type}(tb:iP)(ρ:bC)(K:XK)(Bqq:R->α->Prop)(P:bC->α->Prop)(l:B (α×XK)):Prop:=∃r∈l,(K.nx<=r.2.nx/\cS r.2/\Bqq r.2.nx r.1)/\∃ρ',dj K.nx ρ ρ'/\bV tb ρ' r.2/\P ρ' r.1
def il.one{tb:iP}{K:XK}{Bqq:R->α->Prop}{P:bC->α->Prop}{l l':B (α×XK)}(h:il tb ρ K Bqq P l)(y:∀r∈l,r∈l'):acM tb ρ K Bqq P l':=by obtain⟨h1,r,u,h2⟩:=h;exact⟨r,y r u,h1 r u,h2⟩
def akY(S:kh C.tb)(Z:cS K)(Y:bV C.tb ρ K){z x:R}{o:bA}(P:y<K.nx)(hx:x<K.nx)(hl:(ρ x).l.length=1)(h:Ss C K sz y z x o=O r):
 il C.tb ρ K bD (λ ρ' v=>qt s0 sz (ev ρ (.sl y (O z))) (ev ρ (.sl x o))=O (ev ρ' v)) [r]:=by
 unfold Ss at h;split at h<;>try cases h
 rename_i cells K' M;obtain⟨h1,r1,F,A,a1,k1,u⟩:=ao8 S Z Y (tZ hx) (gL Z.z) M;cases cJ.1 F;obtain⟨b1,b2,b3⟩:=h1 _ F;obtain⟨h2,r2,D,J,a2,k2,p2⟩:=aab S b2 k1 (tZ (eU P b1)) (Hz λ e he=>by rw[cJ.1 he];exact aGx b3) h;cases cJ.1 D;obtain⟨c1,c2,c3⟩:=h2 _ D;refine⟨λ q hq=>by cases cJ.1 hq;exact⟨fI b1 c1,c2,c3⟩,_,cJ.2 Q,J,a1.trans a2 b1,k2,?_⟩;have e1:ev A (.sl y (O z))=ev ρ (.sl y (O z)):=by show ak.sl _ _=.sl _ _;rw[a1 y P]
 have e2:ev ρ (.sl x o)=ev A (.sx [cells] o):=by show ak.sl _ o=.sl _ o;have u:rD _ X (.sl _ o) (.sc _)=O _:=u;unfold rD at u;rw[Cs (show(ρ 0).i+0=0 by rw[(show(ρ 0).i=0 by rw[Y.z];rfl)];rfl)]at u;obtain⟨e0,N⟩:=List.length_eq_one_iff.1 hl;rw[N]at u⊢;simp only[KO]at u;split at u<;>cases u;rfl
 rw[e2,<-e1];exact p2
def aad{o:DR}(h:Qm o=O l):∃r,o=O r/\l=[r]:=by
 cases o;.cases h
 rename_i r;cases h;exact⟨r,Q,Q⟩
def as2(M:kh C.tb)(A:cS K)(u:bV C.tb ρ K){x:XV}(D:bD K.nx s)(hx:bD K.nx x)(h:aax C K sz s x=O l):
 acM C.tb ρ K bD (λ ρ' v=>qt s0 sz (ev ρ s) (ev ρ x)=O (ev ρ' v)) l:=by
 have hz:(ρ 0).i=0:=by rw[u.z];rfl
 unfold aax at h;split at h
 .rename_i y z x o;split at h<;>try cases h
  rename_i n c nm aah m d Z ab h1 h2;split at h
  .rename_i P;rw[bq,bq]at P;obtain⟨⟨N,g2⟩,g3⟩:=P;have N:=jL N;subst N;have q2:=eP u g2;have Y:=eP u g3;unfold maxLen at Y;have l1:=(qT u (qH h1)).1;have l2:=(qT u (qH h2)).1;have F:=(A.fs _ (qH h1)).2.1;have S:(ρ x).l.length=0->qt s0 z _ _=O _:=λ h0=>by show qt s0 z (.sl (ρ y).l (O z)) (.sl (ρ x).l o)=O _;rw[mF h0];show(if(z=z\/(z=0/\(ρ y).l=[]))/\(ρ y).l.length+0<=1073741824/\km z []=V then O _ else X)=_;rw[aY ⟨.inl Q,aa,Q⟩,ou]
   cases e1:K.le n c 0 0
   .rw[e1]at h;cases e2:K.le 0 1 n c
    .rw[e2]at h;simp at h;split at h<;>cases h;rename_i r hr;by_cases h0:(ρ x).l.length=0;.exact⟨_,dJ,⟨aZ _,jJ A F A.z,D⟩,ρ,.rfl,(kg u aa),S h0⟩
     exact(akY M (jJ A A.z F) (kg u aa) D.sl hx.sl aa hr).one λ _ h=>cV _ h
    rw[e2]at h;obtain⟨r,J,rfl⟩:=aad h;have q:=eP u e2;exact(akY M A u D.sl hx.sl aa J).one λ _ h=>h
   rw[e1]at h;cases h;have q:=eP u e1;exact(ju A D u (S aa)).one λ _ h=>h
  obtain⟨r,J,rfl⟩:=aad h;exact(aab M A u D hx J).one λ _ h=>h
 .obtain⟨r,J,rfl⟩:=aad h;exact(aab M A u D hx J).one λ _ h=>h
def av1(N:kh C.tb)(A:bV C.tb ρ K)(hb:cS K){h x:R}{c:U}(S:aiT K y h c=O x):
 x<K.nx/\∀j:R,(j:U)=(ρ h).i+c->j<=(ρ y).l.length->(ρ y).l.take j=(ρ x).l:=by
 obtain⟨f,J,u⟩:=Ez S;split at u<;>try cases u
 split at u<;>try cases u
 rename_i F;rw[bq]at F;have e1:=cI F.1;have e2:=cI F.2;subst e1 e2;split at u<;>try cases u
 rename_i n d nm aah P;split at u<;>cases u;rename_i D;rw[bq]at D;have h1:=eP A D.1;have h2:=eP A D.2;refine⟨hb.fs _ J _ dJ,λ j hj Z=>?_⟩;have Y:=by have:=(qT A (qH P)).1;omega
 apply sI;intro i;rw[wT];split;.have M:(ρ x).l[i]? =O _:=eg aa;rw[M];exact(N.2.2.2.ane _ _ (qT A J)) i _ M
 .rw[zC aa]
theorem aq8(ht:kh C.tb)(D:cS K)(u:bV C.tb ρ K){sl:bA}{x:XV}(hx:bD K.nx x)(hh:∀v,hi=O v->bD K.nx v)(h:X2 C K sl x lo hi=O r):
 il C.tb ρ K bD (λ ρ' v=>AN sl str (ev ρ x) (lo.map (ev ρ)) (hi.map (ev ρ))=O (ev ρ' v)) [r]:=by
 have hz:(ρ 0).i=0:=by rw[u.z];rfl
 unfold X2 at h;split at h
 .rename_i sz y o k A c;split at h<;>try cases h
  rename_i n d nm aah Z;split at h<;>try cases h
  split at h<;>try cases h
  rename_i hc;obtain⟨c1,c2,c3⟩:=hc;have h1:=eP u c2;have h2:=eP u c3;have hm:=qH Z;have hf:=qT u hm;have M:=D.fs _ hm;have J:=(hh _ Q).int;obtain⟨j,hj⟩:=aca (aa:0<=(ρ A).i+c);have ac:=hf.1;have xo:AN (O sz) str (ev ρ (.sl y o)) X (O (.sc (.int k ((ρ A).i+c))))=O (.sl ((ρ y).l.take j) X):=by show(match(O sz:bA),oI X 0,oI _ (ρ y).l.length with|some sz,O l,O h=>if l<=h/\h<=(ρ y).l.length/\km sz (ρ y).l=V then O _ else X|_,_,_=>X)=_;have e1:oI (O (.sc (.int k _))) (ρ y).l.length=O j:=Cs hj;rw[e1];show(if 0<=j/\j<=(ρ y).l.length/\km sz (ρ y).l=V then O _ else X)=_;grind[Ty]
  split at h;.rename_i x Y;cases h;obtain⟨S,P⟩:=av1 ht u D Y;refine ju D (tZ S) u ?_;show AN (O sz) str _ X (O (.sc _))=O (.sl (ρ x).l X);rw[xo,P j hj.symm aa]
  cases h;have N:dj K.nx ρ (GP ρ K.nx ((ρ y).l.take j)):=Za;have F:((K.new.fact (.sl K.nx A c nm aah)).fact (.pr 107 [.s K.nx,.s y])).nx=K.new.nx:=by rw[px,px]
  have b1:cS (K.new.fact (.sl K.nx A c nm aah)):=vk (sk D) ⟨kF _,jc J,λ p hp=>jc (M.2.2 p hp)⟩
  have b2:cS ((K.new.fact _).fact (.pr 107 [.s K.nx,.s y])):=vk b1 λ e he=>by
   rw[px];rcases cg.1 he with rfl|he
   .exact kF _
   rw[cJ.1 he];exact jc hx.sl
  have k1:bV C.tb _ (K.new.fact (.sl K.nx A c nm aah)):=vJ (si (u.qI D N)) ⟨by
   rw[Cq,<-N A J,KL];omega,λ i e he=>by
   rw[Cq]at he;rw[<-Ar N M.2.2];rw[wT]at he;split at he;.exact hf.2 i e he
   cases he⟩
  have k2:bV C.tb _ ((K.new.fact _).fact (.pr 107 [.s K.nx,.s y])):=
   vJ k1 (ht.2.2.2.Xi (GP ρ K.nx _ K.nx) (GP ρ K.nx _ y) λ i e he=>by
    rw[Cq,wT]at he;rw[<-N y hx.sl];split at he;.exact he
    cases he)
  refine rU (by rw[F];exact mS _) b2 (by rw[F];exact tZ (kF _)) N k2 ?_;show AN (O sz) str _ X _=O (.sl _ X);rw[Cq];exact xo
 .rename_i sz es o k A c;split at h
  .rename_i e0;have e0:=cI e0;subst e0;split at h
   .rename_i j;split at h;.cases h;refine ju D (Hz λ e he=>hx.sx e (UJ he)) u ?_;show(match(O sz:bA),oI X 0,oI (O (.sc _)) (fH ρ es).length with|some sz,O l,O h=>if l<=h/\h<=(fH ρ es).length/\km sz (fH ρ es)=V then O (ak.sl _ X)else X|_,_,_=>X)=O (.sl _ X);have e1:oI (O (.sc (.int k ((ρ 0).i+Int.ofNat j)))) (fH ρ es).length=O j:=Cs (by rw[hz];simp);rw[e1];show(if 0<=j/\j<=(fH ρ es).length/\km sz (fH ρ es)=V then O _ else X)=_;grind[Tl,qS,List.map_take]
    cases h
   cases h
  split at h<;>try cases h
  rename_i hc;obtain⟨c1,c2,c3⟩:=hc;have ab:es=[]:=mF c1;subst ab;have h1:=eP u c2;have h2:=eP u c3;refine ju D (Hz λ e he=>bk) u ?_;show(match(O sz:bA),oI X 0,oI (O (.sc _)) 0 with|some sz,O l,O h=>if l<=h/\h<=0/\km sz []=V then O (ak.sl _ X)else X|_,_,_=>X)=O (.sl [] X);have e1:oI (O (.sc (.int k ((ρ A).i+c)))) 0=O 0:=Cs aa;rw[e1];rfl
 .cases h
def amV(u:bV C.tb ρ K){d:R}{x:kt}(h:Qv d x=O j):oI (x.map (ev ρ)) d=O j:=by
 unfold Qv at h;split at h;.cases h;rfl
 .cases h;exact Cs (by rw[(show(ρ 0).i=0 by rw[u.z];rfl)];simp)
 cases h
def axk(F:kh C.tb)(A:cS K)(y:bV C.tb ρ K){sl:bA}{x:XV}(hx:bD K.nx x)(J:∀v,hi=O v->bD K.nx v)(h:Vg C K sl str x lo hi=O r):
 il C.tb ρ K bD (λ ρ' v=>AN sl str (ev ρ x) (lo.map (ev ρ)) (hi.map (ev ρ))=O (ev ρ' v)) [r]:=by
 unfold Vg at h;split at h
 .rename_i s;split at h<;>cases h;rename_i v u;unfold xSs at u;split at u;.rename_i l D e2 e3;split at u<;>cases u;rename_i M;refine ju A ua y ?_;show(match V,oI _ 0,oI _ _ with|true,O l,O h=>if l<=h/\h<=s.length then O _ else X|_,_,_=>X)=_;rw[amV y e2,amV y e3];show(if l<=D/\D<=s.length then O _ else X)=_;rw[aY M];rfl
  cases u
 .exact aq8 F A y hx J h
def azf(u:∀t,C.st t=V->P.underlying t=O .string)(A:cS K)(y:bV C.tb ρ K){t:R}{x i:XV}(h:xIx C t x i=O v):HN P t (ev ρ x) (ev ρ i)=O (ev ρ v)/\bD K.nx v:=by
 unfold xIx at h;split at h;.split at h<;>cases h;rename_i b e1 e2;refine⟨?_,gL A.z⟩;show(match uw P t _ _ with|some r=>lZ r|none=>X)=O (ak.sc _);rw[(show(ρ 0).i=0 by rw[y.z];rfl),zF,zF];unfold uw;rw[u t e1];simp[e2];rfl
 cases h
def Pu(P:aA)(t n:R):Prop:=(n=0->P.underlying t=O .bool)/\(0<n->∀y u:aK,y.length=n->u.length=n->∃b,nX P t (.agg (y.map λ v=>.int .i64 v)) (.agg (u.map λ v=>.int .i64 v))=O b)
def zw(P:aA)(C:fS):Prop:=(∀t,C.st t=V->P.underlying t=O .string)/\∀t n,C.eq t n=V->Pu P t n
def Vr:∀{l:dB},Se l=V->∃u:aK,rX (aT ρ l)=O (u.map λ v=>au.int .i64 v)/\u.length=l.length
 |[],_=>⟨[],Q,Q⟩
 |.int .i64 x c::l,h=>by obtain⟨u,h1,h2⟩:=Vr (l:=l) h;refine⟨((ρ x).i+c)::u,?_,by simp[h2]⟩;show(rX (ak.sc _::aT ρ l))=_;simp only[rX,h1];rfl
def aJd{P:aA}(A:zw P C)(ht:kh C.tb)(F:cS K)(J:bV C.tb ρ K){x y:XV}(hx:bD K.nx x)(hy:bD K.nx y)(h:Yw C K op t x y=O l):
 il C.tb ρ K bD (yh P op t (ev ρ x) (ev ρ y)) l:=by
 unfold Yw at h;split at h
 .rename_i a b;split at h<;>cases h;rename_i w he u;refine ju F ua J ?_;have hu:=(A.2 _ _ he).1 Q;unfold Dd at u;split at u;.cases u;show(match(match nX P t _ _ with|some b=>O _|none=>X)with|some r=>lZ r|none=>X)=_;unfold nX;rw[hu];cases a<;>cases b<;>rfl
  .cases u;show(match(match nX P t _ _ with|some b=>O _|none=>X)with|some r=>lZ r|none=>X)=_;unfold nX;rw[hu];cases a<;>cases b<;>rfl
  cases u
 .rename_i S N;split at h<;>cases h;rename_i w Z u;simp only[bq]at Z;obtain⟨⟨⟨⟨c1,c2⟩,c3⟩,c4⟩,c5⟩:=Z;obtain⟨Y,n1,n2⟩:=Vr c4;obtain⟨ms,m1,m2⟩:=Vr c5;obtain⟨b,D⟩:=(A.2 _ _ c1).2 (by simpa using c3) Y ms n2 (m2.trans (cI c2).symm);have e1:tg (ev ρ (.agg S))=O (.agg (Y.map λ v=>.int .i64 v)):=by show(match rX _ with|some l=>O _|none=>X)=_;rw[n1]
  have e2:tg (ev ρ (.agg N))=O (.agg (ms.map λ v=>.int .i64 v)):=by show(match rX _ with|some l=>O _|none=>X)=_;rw[m1]
  have M:∃v,fU P op t (ev ρ (.agg S)) (ev ρ (.agg N))=O (.sc (.bool v)):=by
   unfold fU;rw[e1,e2];unfold Dd at u;split at u;.refine⟨b,?_⟩;show(match(match nX P t _ _ with|some b=>O _|none=>X)with|some r=>lZ r|none=>X)=_;rw[D];rfl
   .refine⟨!b,?_⟩;show(match(match nX P t _ _ with|some b=>O _|none=>X)with|some r=>lZ r|none=>X)=_;rw[D];rfl
   cases u
  obtain⟨v,hv⟩:=M;refine rU (ρ':=SP ρ _ v) (mS _) (sk F) (Hv (kF _)) QV (si (J.qI F QV)) ?_;show fU _ _ _ _ _=O (ak.sc _);rw[ao7];exact hv
 .exact aFj ht F J hx hy h
end
section
variable{ρ ρ':bC}{C:fS}{K K':XK}{P:aA}{gl:bH}{aae:eE}{T:XT}{s:XS}{n:R}
def Wu{T:XT}(h:lD n T)(i:R):bD n (vB T i):=λ ρ ρ' u=>by rw[<-CW,<-CW,h ρ ρ' u]
theorem ajH{T:XT}(h:lD n T)(e:lk T i=O v):bD n v:=λ ρ ρ' u=>by
 have h1:lk (dw ρ T) i=O (ev ρ v):=by rw[Py,e];rfl
 rw[h ρ ρ' u,(show lk _ i=O _ by rw[Py,e];rfl)]at h1;grind
theorem agZ(u:0<n){v:ak}{w:XV}(h:KG v=O w):bD n w:=by
 unfold KG at h;split at h<;>cases h;.exact gL u
 .exact ua
 .exact λ _ _ _=>rfl
 exact λ _ _ _=>rfl
theorem GY(u:0<n):∀{v:be} {w:dB},yy v=O w->fM n w
 |[],w,h=>by cases h;exact λ _ _ _=>rfl
 |v::l,w,h=>by unfold yy at h;split at h<;>cases h;rename_i a r A y;exact λ ρ ρ' q=>by show ev ρ a::aT ρ r=ev ρ' a::aT ρ' r;rw[agZ u A ρ ρ' q,GY u y ρ ρ' q]
theorem aC3(u:0<n){v:ak}{w:XV}(h:xv v=O w):bD n w:=by unfold xv at h;grind[PT,GY,agZ]
theorem kL(u:0<n)(y:lD n T){x:eK}(h:iI T x=O v):bD n v:=by
 cases x with
 |t i=>cases h;exact Wu y i
 |i m=>cases h;exact gL u
 |b x=>cases h;exact ua
 |v x=>exact aC3 u h
 |g m=>cases h
 |f f=>cases h;exact λ _ _ _=>rfl
def Xj(u:0<n)(y:lD n T):∀{x:wH} {v:dB},ER T x=O v->fM n v
 |[],v,h=>by cases h;exact λ _ _ _=>rfl
 |x::l,v,h=>by unfold ER at h;split at h<;>cases h;rename_i a r D A;exact λ ρ ρ' q=>by show ev ρ a::aT ρ r=ev ρ' a::aT ρ' r;rw[kL u y D ρ ρ' q,Xj u y A ρ ρ' q]
def BdP(n:R)(l:sd):Prop:=∀ρ ρ',dj n ρ ρ'->uf ρ l=uf ρ' l
def OO(u:0<n)(y:lD n T):∀{x:xB} {v:sd},De T x=O v->BdP n v
 |[],v,h=>by cases h;exact λ _ _ _=>rfl
 |(i,x)::l,v,h=>by unfold De at h;split at h<;>cases h;rename_i a r D A;exact λ ρ ρ' q=>by show(i,ev ρ a)::uf ρ r=(i,ev ρ' a)::uf ρ' r;rw[kL u y D ρ ρ' q,OO u y A ρ ρ' q]
theorem asl(y:0<n)(A:lD n T){x:Eh}{v:kt}(h:Jv T x=O v):∀w,v=O w->bD n w:=by
 intro w u;cases x;.cases h;cases u
 rename_i x;grind[Jv,kL]
def CI(A:lD n T)(y:bD n v):lD n (tC m T d v):=λ ρ ρ' u=>by rw[<-Dz,<-Dz,A ρ ρ' u,y ρ ρ' u]
def Yp(y:lD n T)(l:lC):lD n (GM l T):=λ ρ ρ' u=>by rw[<-FR,<-FR,y ρ ρ' u]
def Js(D:lD n T)(A:lH n s)(o:ze):lD n (jm o T s).1/\lH n (jm o T s).2:=by
 have y:∀ρ ρ',dj n ρ ρ'->(dw ρ _,bX ρ _)=(dw ρ' _,bX ρ' (jm o T s).2):=λ ρ ρ' u=>by rw[<-CY,<-CY,D ρ ρ' u,A ρ ρ' u]
 exact⟨λ ρ ρ' u=>(UU (y ρ ρ' u)).1,λ ρ ρ' u=>(UU (y ρ ρ' u)).2⟩
def yO(tb:iP)(ρ:bC)(K:XK)(Qqq:M5)(l:xh):Prop:=∃r∈l,∃ρ',dj K.nx ρ ρ'/\bV tb ρ' r.k/\(K.nx<=r.k.nx/\cS r.k/\bD r.k.nx r.v/\lH r.k.nx r.s)/\Qqq ρ' r
theorem tE{Qqq:M5}{r:AH}(u:r.k=K)(F:cS K)(D:bV C.tb ρ K)(y:bD K.nx r.v)(A:lH K.nx r.s)(h:Qqq ρ r):yO C.tb ρ K Qqq [r]:=by subst u;exact⟨r,cJ.2 Q,ρ,.rfl,D,⟨aZ _,F,y,A⟩,h⟩
def Mw{Qqq:M5}(y:lH K.nx s)(h:il C.tb ρ K bD Rqq l)(A:∀ρ' v K',dj K.nx ρ ρ'->Rqq ρ' v->Qqq ρ' ⟨v,[],s,e,K'⟩):
 yO C.tb ρ K Qqq (l.map λ p=>⟨p.1,[],s,e,p.2⟩):=by
 obtain⟨h1,r,u,ρ',h2,F,D⟩:=h;exact⟨_,lO.2 ⟨r,u,Q⟩,ρ',h2,F,⟨(h1 r u).1,(h1 r u).2.1,(h1 r u).2.2,y.mono (h1 r u).1⟩,A ρ' _ _ h2 D⟩
def acu{Qqq:M5}{p:XV×XK}(y:lH K.nx s)(h:il C.tb ρ K bD Rqq [p])(A:∀ρ' v K',dj K.nx ρ ρ'->Rqq ρ' v->Qqq ρ' ⟨v,src,s,e,K'⟩):
 yO C.tb ρ K Qqq [⟨p.1,src,s,e,p.2⟩]:=by
 obtain⟨h1,r,u,ρ',h2,F,D⟩:=h;rw[cJ]at u;subst u;have:=h1 r (cJ.2 Q);exact⟨_,cJ.2 Q,ρ',h2,F,⟨this.1,this.2.1,this.2.2,y.mono this.1⟩,A ρ' _ _ h2 D⟩
def aDD{Qqq:M5}(u:lH K.nx s)(h:acM C.tb ρ K bD Rqq l)(A:∀ρ' v K',dj K.nx ρ ρ'->Rqq ρ' v->Qqq ρ' ⟨v,src,s,e,K'⟩):
 yO C.tb ρ K Qqq (l.map λ p=>⟨p.1,src,s,e,p.2⟩):=by
 obtain⟨r,y,h1,ρ',h2,F,D⟩:=h;exact⟨_,lO.2 ⟨r,y,Q⟩,ρ',h2,F,⟨h1.1,h1.2.1,h1.2.2,u.mono h1.1⟩,A ρ' _ _ h2 D⟩
def Je(aae:eE)(ρ:bC)(s:XS)(g:R)(args:dB):bC->AH->Prop:=λ ρ' r=>∃d,aae g (aT ρ args) ((bX ρ s).cur::(bX ρ s).up)=O (ev ρ' r.v,(bX ρ' r.s).cur::(bX ρ' r.s).up,d)/\r.s.w=(s.w||d)/\r.e=.eO (rY d)/\r.src=[]
def F2(P:aA)(C:fS)(aae:eE)(SI:Y5)(cl:Ja):Prop:=∀{g:R} {args:dB} {s:XS} {K:XK} {l:xh} {ρ:bC},cl g args s K=O l->cS K->bV C.tb ρ K->SI ρ K->fM K.nx args->lH K.nx s->ly P g=V/\yO C.tb ρ K (Je aae ρ s g args) l
def fw{β:Type}{o:gw α}{f:α->gw β}{b:β}(h:oB o f=O b):∃a,o=O a/\f a=O b:=by
 cases o;.cases h
 rename_i a;exact⟨a,Q,h⟩
def Au{s:XS}{K:XK}{o:kt}{l:xh}(h:yw s K src e o=O l):∃v,o=O v/\l=[⟨v,src,s,e,K⟩]:=by
 cases o;.cases h
 rename_i v;cases h;exact⟨v,Q,Q⟩
theorem aC8(l:sd):(uf ρ l).map (λ p=>(p.1,dg p.2))=uf ρ (l.map λ p=>(p.1,qK p.2)):=by grind[uf,acL,vS]
theorem agn:∀cs:dB,qx 1 cs.length ((cs.map uv).map (ev ρ))=(cs.map λ c=>[uv c]).map (aT ρ)
 |[]=>rfl
 |c::cs=>by show[ev ρ _]::qx 1 _ ((cs.map uv).map _)=[ev ρ _]::(cs.map _).map _;rw[agn cs]
theorem awd(S:mL)(v:XV):mA (S.map (dH ρ)) (ev ρ v)=ev ρ (Gw S v):=by
 cases v with
 |ms d k len sz=>
  show(match jW _ d k with|some cs=>_|none=>_)=ev ρ (match DC S d k with|some cs=>_|none=>_);rw[Ra];cases DC S d k;.rfl
  rename_i cs;simp;rw[(show(aT ρ cs).all _=cs.all XV.data by grind[gq,all_map,FE]),BQ cs];cases y:cs.all _;.rfl
  cases u:(len*sz==cs.length&&sz==1);.rfl
  show ak.sl _ X=.sl _ X;grind[gq,Rv,qS,agn]
 |agg cs=>exact vS (.agg cs)
 |_=>rfl
theorem WH(S:mL)(l:dB):(aT ρ l).map (mA (S.map (dH ρ)))=aT ρ (l.map (Gw S)):=by grind[gq,acL,awd]
theorem aJE{S:mL}(y:lH n s)(e:S=s.cur::s.up){l:dB}(A:fM n l):fM n (l.map (Gw S)):=λ ρ ρ' u=>by rw[<-WH,<-WH,A ρ ρ' u];have:=y ρ ρ' u;have h1:dH ρ _=dH ρ' _:=fP aG.cur this;have h2:s.up.map _=s.up.map _:=fP aG.up this;grind
def av2{n:R}{s:XS}{b:XV}(y:lH n s)(A:bD n b):bD n (JZ s b):=by
 cases b with
 |ms d k len sz=>
  intro ρ ρ' u;unfold JZ;simp;cases hx:Br s d k;.rfl
  rename_i cs;simp;split
  .have h1:=Nt (ρ:=ρ) s d k;rw[y ρ ρ' u,Nt s d k,hx]at h1;have e:=by simpa using h1
   show ak.sl _ X=ak.sl _ X;rw[<-Sw,<-Sw,e]
  rfl
 |_=>exact A
def at0{st:aG}{x y z:ak}(h:DU st y=DU st z):qt st sz x y=qt st sz x z:=by unfold qt;rw[h]
theorem P7(ht:kh C.tb)(ai:zw P C)(aJ:F2 P C aae SI cl)(hb:cS K)(hk:bV C.tb ρ K)(aE:SI ρ K)(Y:lD K.nx T)(S:lH K.nx s){ah:fV}{c:CO}{l:xh}(h:NX C cl T s K ah c=O l):
 yO C.tb ρ K (λ ρ' r=>bw P gl aae (dw ρ T) (bX ρ s) ah c=O ⟨ev ρ' r.v,r.src,bX ρ' r.s,r.e⟩) l:=by
 have J:=hk.z;have N:=hb.z;cases c with
 |mv x=>
  obtain⟨v,hv,h⟩:=fw h;obtain⟨w,hw,rfl⟩:=Au h;cases hw;refine tE Q hb hk (anG (kL N Y hv)) S ?_;simp only[bw,jz J hv,oB,vS]
 |tk sz x=>
  obtain⟨v,hv,h⟩:=fw h;obtain⟨w,hw,rfl⟩:=Au h;have ac:=kL N Y hv;refine tE Q hb hk (λ ρ ρ' A=>by rw[<-aaG hw,<-aaG hw,ac ρ ρ' A]) S ?_;simp only[bw,jz J hv,oB,aaG hw]
 |pk c a b=>
  obtain⟨vc,av,h⟩:=fw h;obtain⟨va,ax,h⟩:=fw h;obtain⟨vb,aw,h⟩:=fw h;obtain⟨bl,ao,h⟩:=fw h;cases h;obtain⟨b0,aM,h1,r,M,ρ',h2,h3,h4⟩:=ahe hb hk (kL N Y av) ao;have ba:=kL N Y ax;have bb:=kL N Y aw;have bc:∀x:mi,bD K.nx (qK (cond x va vb)):=λ x=>by grind[anG]
  refine⟨_,lO.2 ⟨r,M,Q⟩,ρ',h2,h3,?_,?_⟩
  .exact⟨(h1 r M).1,(h1 r M).2.1,(bc _).mono (h1 r M).1,S.mono (h1 r M).1⟩
  .have h4:r.1=b0:=h4;simp only[bw,jz J av,jz J ax,jz J aw,oB,aM];rw[<-(bc r.1) ρ ρ' h2,<-S ρ ρ' h2,h4];cases b0 with
   |true=>show O _=_;rw[vS];rfl
   |false=>show O _=_;rw[vS];rfl
 |bl z pl ps=>
  obtain⟨vz,ab,h⟩:=fw h;obtain⟨vl,ad,h⟩:=fw h;obtain⟨cs,aI,h⟩:=fw h;obtain⟨w,hw,rfl⟩:=Au h;cases hw;have u:∀ρ,oZ pl (aT ρ vz) ((uf ρ vl).map λ p=>(p.1,dg p.2))=O (aT ρ cs):=λ ρ=>by grind[aC8,gq,YM]
  refine tE Q hb hk (PT λ ρ ρ' A=>?_) S ?_
  .have F:=u ρ;rw[GY N ab ρ ρ' A,OO N Y ad ρ ρ' A,u ρ']at F;grind
  .have F:=u ρ;rw[GR J ab]at F;simp only[bw,OX J ad,oB,F];rfl
 |bt z pl ps=>
  obtain⟨vz,ab,h⟩:=fw h;obtain⟨vl,ad,h⟩:=fw h;obtain⟨cs,aI,h⟩:=fw h;obtain⟨w,hw,rfl⟩:=Au h;cases hw;have u:∀ρ,oZ pl (aT ρ vz) (uf ρ vl)=O (aT ρ cs):=λ ρ=>by grind[gq,YM]
  refine tE Q hb hk (PT λ ρ ρ' A=>?_) S ?_
  .have F:=u ρ;rw[GY N ab ρ ρ' A,OO N Y ad ρ ρ' A,u ρ']at F;grind
  .have F:=u ρ;rw[GR J ab]at F;simp only[bw,OX J ad,oB,F];rfl
 |nl x=>
  obtain⟨v,hv,h⟩:=fw h;obtain⟨w,hw,rfl⟩:=Au h;have ac:=kL N Y hv;refine tE Q hb hk (λ ρ ρ' A=>?_) S ?_
  .have F:=Vn (ρ:=ρ) hw;rw[ac ρ ρ' A,Vn hw]at F;grind
  .simp only[bw,jz J hv,oB,Vn hw,cP]
 |bn op t x y=>
  obtain⟨a,A,h⟩:=fw h;obtain⟨b,D,h⟩:=fw h;unfold zZ at h;split at h
  .rename_i l' hl;cases h;refine Mw S (aJd (P:=P) (t:=t) ai ht hb hk (kL N Y A) (kL N Y D) hl) λ ρ' v K' Z M=>?_
   simp only[bw,jz J A,jz J D,oB,M,cP,S ρ ρ' Z]
  .cases h
 |un op x=>
  obtain⟨a,A,h⟩:=fw h;unfold zZ at h;split at h
  .rename_i l' hl;cases h;refine Mw S (ay5 hb hk (kL N Y A) hl) λ ρ' v K' Z M=>?_
   simp only[bw,jz J A,oB,M,cP,S ρ ρ' Z]
  .cases h
 |mn x y=>
  obtain⟨a,A,h⟩:=fw h;obtain⟨b,D,h⟩:=fw h;unfold zZ at h;split at h
  .rename_i l' hl;cases h;refine Mw S (aJG hb hk (kL N Y A) (kL N Y D) hl) λ ρ' v K' Z M=>?_
   simp only[bw,jz J A,jz J D,oB,M,cP,S ρ ρ' Z]
  .cases h
 |mx x y=>
  obtain⟨a,A,h⟩:=fw h;obtain⟨b,D,h⟩:=fw h;unfold zZ at h;split at h
  .rename_i l' hl;cases h;refine Mw S (aqo hb hk (kL N Y A) (kL N Y D) hl) λ ρ' v K' Z M=>?_
   simp only[bw,jz J A,jz J D,oB,M,cP,S ρ ρ' Z]
  .cases h
 |cv k x=>
  obtain⟨v,hv,h⟩:=fw h;obtain⟨w,hw,rfl⟩:=Au h;obtain⟨e1,e2⟩:=aEj hk (kL N Y hv) hw;grind[tE,bw,jz,oB]
 |mf f cap=>
  obtain⟨v,hv,h⟩:=fw h;obtain⟨w,hw,rfl⟩:=Au h;cases hw;have ac:=Xj N Y hv;refine tE Q hb hk (afB λ ρ ρ' A=>?_) S ?_
  .have:=ac ρ ρ' A;grind[gq,ahH]
  .simp only[bw,aay J hv,oB];show O _=O (VR.mk (.fn f (aT ρ (v.map qK))) _ _ _);rw[gq,gq,ahH]
 |fa o x=>
  obtain⟨v,hv,h⟩:=fw h;obtain⟨w,hw,rfl⟩:=Au h;have ac:=kL N Y hv;refine tE Q hb hk (λ ρ ρ' A=>?_) S ?_
  .have F:=acS (ρ:=ρ) hw;rw[ac ρ ρ' A,acS hw]at F;grind
  .simp only[bw,jz J hv,oB,acS hw,cP]
 |ia sl ar x ix=>
  obtain⟨a,A,h⟩:=fw h;obtain⟨b,D,h⟩:=fw h;unfold zZ at h;split at h
  .rename_i l' hl;cases h;refine Mw S (ao8 ht hb hk (kL N Y A) (kL N Y D) hl) λ ρ' v K' Z M=>?_
   simp only[bw,jz J A,jz J D,oB,M,cP,S ρ ρ' Z]
  .cases h
 |ix t x i=>
  obtain⟨a,A,h⟩:=fw h;obtain⟨b,D,h⟩:=fw h;obtain⟨w,hw,rfl⟩:=Au h;obtain⟨e1,e2⟩:=azf ai.1 hb hk hw;grind[tE,bw,jz,oB,cP]
 |ex i x=>
  obtain⟨v,hv,h⟩:=fw h;obtain⟨w,hw,rfl⟩:=Au h;have ac:=kL N Y hv;refine tE Q hb hk (λ ρ ρ' A=>?_) S ?_
  .have F:=Zt (ρ:=ρ) hw;rw[ac ρ ρ' A,Zt hw]at F;grind
  .simp only[bw,jz J hv,oB,Zt hw,cP]
 |ln sl t x=>
  obtain⟨a,A,h⟩:=fw h;unfold Rr at h;split at h
  .rename_i v K' hl;cases h;refine acu S (aBY (P:=P) ai.1 hb hk (kL N Y A) hl) λ ρ' v K' Z M=>?_
   simp only[bw,jz J A,oB,M,cP,S ρ ρ' Z]
  .cases h
 |ld tk agg m x=>
  obtain⟨a,A,h⟩:=fw h;obtain⟨r,M,h⟩:=fw h;cases h;have aL:=kL N Y A;have u:∀ρ ρ',dj K.nx ρ ρ'->(ev ρ r.1,r.2.1,bX ρ r.2.2)=(ev ρ' r.1,r.2.1,bX ρ' r.2.2):=λ ρ ρ' q=>by have F:=O0 (ρ:=ρ) tk agg m s a M;rw[S ρ ρ' q,aL ρ ρ' q,O0 tk agg m s a M]at F;grind
  refine tE Q hb hk (λ ρ ρ' q=>(UU (u ρ ρ' q)).1) (λ ρ ρ' q=>(UU (UU (u ρ ρ' q)).2).2) ?_;simp only[bw,jz J A,oB,O0 tk agg m s a M]
 |sx sl str x lo hi=>
  obtain⟨a,A,h⟩:=fw h;obtain⟨vl,ad,h⟩:=fw h;obtain⟨vh,aq,h⟩:=fw h;unfold Rr at h;split at h
  .rename_i v K' hl;cases h;refine acu S (axk (str:=str) ht hb hk (kL N Y A) (asl N Y aq) hl) λ ρ' v K' Z M=>?_
   simp only[bw,jz J A,aog J ad,aog J aq,oB,M,S ρ ρ' Z]
  .cases h
 |al z=>
  obtain⟨vz,ab,h⟩:=fw h;cases ah with
  |none=>cases h
  |some k=>
   have h:oB (JO T s k vz) _=O l:=h;obtain⟨s',ae,h⟩:=fw h;cases h;have u:∀ρ,iX (dw ρ T) (bX ρ s) k (aT ρ vz)=O (bX ρ s'):=λ ρ=>by rw[QZ,ae];rfl
   refine tE Q hb hk (λ _ _ _=>rfl) (λ ρ ρ' q=>?_) ?_
   .have F:=u ρ;rw[Y ρ ρ' q,S ρ ρ' q,GY N ab ρ ρ' q,u ρ']at F;grind
   .have F:=u ρ;rw[GR J ab]at F;simp only[bw,oB,F,Bw];rfl
 |bx tk x=>
  obtain⟨k,rfl,h⟩:=fw h;obtain⟨v,hv,h⟩:=fw h;have ac:=kL N Y hv;split at h
  .cases h
  .rename_i ay;obtain⟨s',ae,h⟩:=fw h;cases h
   have u:∀ρ,iX (dw ρ T) (bX ρ s) k (cond tk (ev ρ v).cells (dg (ev ρ v)).cells)=O (bX ρ s'):=by
    intro ρ;cases tk with
    |true=>
     simp only[cond_true]at ae⊢;rw[HU,<-gq,QZ,ae];rfl
    |false=>
     simp only[adZ]at ae⊢;rw[vS,HU,<-gq,QZ,ae];rfl
   refine tE Q hb hk (λ _ _ _=>rfl) (λ ρ ρ' q=>?_) ?_
   .have F:=u ρ;rw[Y ρ ρ' q,S ρ ρ' q,ac ρ ρ' q,u ρ']at F;grind
   .have F:=u ρ;simp only[bw,oB,jz J hv,ac4,ay,Bw];cases tk with
    |true=>simp only[cond_true]at F⊢;rw[F];rfl
    |false=>simp only[adZ]at F⊢;rw[F];rfl
 |bs sz z m ps=>
  obtain⟨vz,ab,h⟩:=fw h;obtain⟨vl,ad,h⟩:=fw h;obtain⟨es,aH,h⟩:=fw h;cases h
  have u:∀ρ,sF sz (ef m (aT ρ vz)) (uf ρ vl)=O (fH ρ es):=λ ρ=>by
   have e:ef m (aT ρ vz)=fH ρ (ef m vz):=by rw[qS,asz]
   rw[e,akb,aH];rfl
  refine tE Q hb hk (λ ρ ρ' q=>?_) S ?_
  .have F:=u ρ;rw[GY N ab ρ ρ' q,OO N Y ad ρ ρ' q,u ρ']at F;show ak.sl _ _=.sl _ _;rw[tO F]
  .have F:=u ρ;rw[GR J ab]at F;simp only[bw,OX J ad,oB,F];rfl
 |mk z lo c=>
  obtain⟨vz,ab,h⟩:=fw h;cases ah with
  |none=>cases h
  |some k=>
   have h:oB (iI T lo) _=O l:=h;obtain⟨a,A,h⟩:=fw h;obtain⟨b,D,h⟩:=fw h;split at h
   .rename_i nn mm xx;split at h
    .rename_i hc;obtain⟨s',ae,h⟩:=fw h;cases h
     have u:∀ρ,iX (dw ρ T) (bX ρ s) k (ef nn (aT ρ vz)).flatten=O (bX ρ s'):=λ ρ=>by
      have e:(ef nn (aT ρ vz)).flatten=aT ρ (ef nn vz).flatten:=by grind[gq,asz]
      rw[e,QZ,ae];rfl
     refine tE Q hb hk (λ _ _ _=>rfl) (λ ρ ρ' q=>?_) ?_
     .have F:=u ρ;rw[Y ρ ρ' q,S ρ ρ' q,GY N ab ρ ρ' q,u ρ']at F;grind
     .have F:=u ρ;rw[GR J ab]at F;have h0:(ρ 0).i=0:=by rw[J];rfl
      have e1:ev ρ (.int .i64 0 (Int.ofNat nn))=.sc (.int .i64 (.ofNat nn)):=by show ak.sc _=_;rw[h0,zF]
      have e2:ev ρ (.int .i64 0 (Int.ofNat mm))=.sc (.int .i64 (.ofNat mm)):=bP;simp only[bw,oB,jz J A,jz J D,e1,e2,Bw];rw[aY ⟨hc.1,aa⟩,F];rfl
    .cases h
   .cases h
 |st m x v=>
  obtain⟨a,A,h⟩:=fw h;obtain⟨b,D,h⟩:=fw h;obtain⟨r,M,h⟩:=fw h;cases h;have ba:=kL N Y A;have bb:=kL N Y D;refine tE Q hb hk (λ _ _ _=>rfl) (λ ρ ρ' q=>?_) ?_
  .have F:=YL (ρ:=ρ) s m a b M;rw[S ρ ρ' q,ba ρ ρ' q,bb ρ ρ' q,YL s m a b M]at F;grind
  .simp only[bw,oB,jz J A,jz J D,YL s m a b M];rfl
 |LR f args=>cases h
 |cl f args=>
  obtain⟨vf,au,h⟩:=fw h;obtain⟨la,aB,h⟩:=fw h;split at h<;>try cases h
  rename_i g cap xx;have aK:=kL N Y au;have ao:=Xj N Y aB;have aC:fM K.nx cap:=λ ρ ρ' q=>by have:=aK ρ ρ' q;grind[ev]
  have aD:fM K.nx (la++cap):=λ ρ ρ' q=>by have F:=ao ρ ρ' q;have k2:=aC ρ ρ' q;grind[gq]
  unfold alL at h;split at h
  .cases h
  .rename_i am;split at h
   .rename_i aQ an;split at h<;>try cases h
    rename_i aj;obtain⟨hq,r,M,ρ',h2,h3,h1,d,e1,e2,e3,e4⟩:=aJ an hb hk aE (aJE S Q aD) S;refine⟨r,M,ρ',h2,h3,h1,?_⟩;have aP:(bX ρ s).cur::(bX ρ s).up=(s.cur::s.up).map (dH ρ):=rfl;have af:(aT ρ la++aT ρ cap).map (mA ((bX ρ s).cur::(bX ρ s).up))=aT ρ ((la++cap).map (Gw (s.cur::s.up))):=by grind[WH,gq]
    have aO:(aT ρ la++aT ρ cap).any ak.kZ=(la++cap).any XV.kZ:=by rw[gq,gq,<-zD];exact any_map (λ a=>aH6 a) _
    have aN:(aT ρ ((la++cap).map (Gw (s.cur::s.up)))).any ak.open=((la++cap).map (Gw (s.cur::s.up))).any XV.open:=by rw[gq];exact any_map (λ a=>VC a) _
    have ag:((aT ρ la++aT ρ cap).any ak.kZ&&(!(AJ (ev ρ' r.v))||((aT ρ la++aT ρ cap).map (mA ((bX ρ s).cur::(bX ρ s).up))).any ak.open))=false:=by
     rw[af,aO,aN];cases hm:(la++cap).any XV.kZ with
     |false=>rfl
     |true=>
      rw[hm]at am aj;simp only[Ex,apS]at am aj;have az:=iw.1 aj r M;have:AJ (ev ρ' r.v)=true:=by cases hv:r.v<;>rw[hv]at az<;>first|rfl|cases az
      rw[this,am];rfl
    show Dv P gl aae (dw ρ T) (bX ρ s) f args=_;unfold Dv;rw[jz J au,aay J aB];rw[show ev ρ (.fn g cap)=.fn g (aT ρ cap)from Q];rw[af]at ag;simp only[hq,af,e1,ag,e3,e4]
    congr 2
    show aG.mk (s.w||d) _ _=aG.mk _ _ _;rw[e2];rfl
   .cases h
 |ap sz x y=>
  obtain⟨a,A,h⟩:=fw h;obtain⟨b,D,h⟩:=fw h;obtain⟨r,M,h⟩:=fw h;cases h
  have aF:JZ s b≠.un:=λ e=>by
   rw[e]at M;cases a with
   |sl y o=>cases o<;>cases M
   |sx es o=>cases o<;>cases M
   |_=>cases M
  refine aDD S (as2 (s0:=bX ρ s) ht hb hk (kL N Y A) (av2 S (kL N Y D)) M) λ ρ' v K' Z M=>?_
  simp only[bw,jz J A,jz J D,oB,(at0 (azJ s Q aF)).trans M];rw[S ρ ρ' Z]
 |Qr sz x y=>
  obtain⟨a,A,h⟩:=fw h;obtain⟨b,D,h⟩:=fw h;obtain⟨r,M,h⟩:=fw h;cases h;refine acu S (aGK ht hb hk (kL N Y A) M) λ ρ' v K' Z M=>?_
  simp only[bw,jz J A,jz J D,oB,M];rw[S ρ ρ' Z]
end
section
variable{Zv Zx:iq}{o:CO}{s0:XS}
variable{ρ ρ':bC}{C:fS}{K K':XK}{P:aA}{gl:bH}{aae:eE}{T:XT}{s:XS}{n:R}
structure uG (tb:iP) (ρ:bC) (a:XA):Prop where
 b:cS a.k
 k:bV tb ρ a.k
 T:lD a.k.nx a.T
 s:lH a.k.nx a.s
def EG{α:Type}(tb:iP)(ρ:bC)(K:XK)(Qqq:bC->α->XA->Prop)(l:B (α×XA)):Prop:=∃r∈l,∃ρ',dj K.nx ρ ρ'/\K.nx<=r.2.k.nx/\uG tb ρ' r.2/\Qqq ρ' r.1 r.2
def vO{β:Type}{f:α->gw (B β)}:∀{l:B α} {r:B β},qn f l=O r->∀a∈l,∃x,f a=O x/\∀y∈x,y∈r
 |[],r,h,a,u=>by cases u
 |b::l,r,h,a,u=>by
  unfold qn at h;split at h<;>cases h;rename_i x y hx F;rcases cg.1 u with rfl|u
  .exact⟨x,hx,λ z A=>UH _ A⟩
  obtain⟨D,h1,h2⟩:=vO F a u;exact⟨D,h1,λ z A=>ad7 _ (h2 z A)⟩
def aaJ(A:cS K)(y:bV C.tb ρ K)(F:lD K.nx T){g:JM}{gs:xw}(h:Ml K T g=O gs):∃b,zH (dw ρ T) g=O b/\il C.tb ρ K DB (λ _ x=>x=b) gs:=by
 cases g;.cases h;exact⟨V,Q,ju A sp y Q⟩
 rename_i p;obtain⟨t,want⟩:=p;unfold Ml at h;simp at h;unfold zH;simp only[CW];have u:=Wu F t;split at h;.rename_i b hx;cases h;exact hx▸⟨_,Q,ju A sp y Q⟩
 .rename_i hx;cases h;exact hx▸⟨_,Q,ju A sp y Q⟩
 .rename_i x hx;cases h;rw[hx]at u⊢;exact⟨_,Q,(Rw A y u.bs).map (λ x=>x==want) (λ _ _ _=>trivial) λ ρ' a D=>by subst D;rfl⟩
 cases h
def P5(ht:kh C.tb)(Y:zw P C)(aa:F2 P C aae SI cl)(D:∀{ρ ρ':bC} {K K':XK},SI ρ K->dj K.nx ρ ρ'->K.nx<=K'.nx->SI ρ' K'):∀{l:jh} {a:XA} {r:B XA} {ρ:bC},uG C.tb ρ a->SI ρ a.k->IJ C cl n l a=O r->
 ∃b∈r,∃ρ',dj a.k.nx ρ ρ'/\a.k.nx<=b.k.nx/\uG C.tb ρ' b/\pF P gl aae n l (dw ρ a.T) (bX ρ a.s)=O (dw ρ' b.T,bX ρ' b.s)
 |[],a,r,ρ,A,J,h=>by cases h;exact⟨a,cJ.2 Q,ρ,.rfl,aZ _,A,Q⟩
 |e::l,a,r,ρ,A,J,h=>by
  unfold IJ at h;split at h<;>try cases h
  rename_i gs ag;obtain⟨b0,ac,h1,g,ab,F,h2,h3,h4⟩:=aaJ A.b A.k A.T ag;obtain⟨x,hx,M⟩:=vO h g ab;obtain⟨u,g2,_⟩:=h1 g ab;have eT:=A.T ρ F h2;have eS:=A.s ρ F h2;split at hx
  .rename_i Z;rw[Z]at h4;subst h4;split at hx<;>try cases hx
   rename_i rs ae;obtain⟨r1,af,ad,k1,k2,⟨k3,k4,k5,k6⟩,k7⟩:=P7 (gl:=gl) ht Y aa g2 h3 (D J h2 u) (A.T.mono u) (A.s.mono u) ae;obtain⟨y,hy,S⟩:=vO hx r1 af;obtain⟨b,hb,N,m1,m2,m3,m4⟩:=P5 ht Y aa D ⟨k4,k2,CI (Yp (A.T.mono (fI u k3)) _) k5,k6⟩ (D (D J h2 u) k1 k3) hy;refine⟨b,M b (S b hb),N,(h2.trans k1 u).trans m1 (fI u k3),fI (fI u k3) m2,m3,?_⟩;unfold pF;rw[ac,eT,eS];simp[k7];rw[(A.T.mono u) F ad k1,FR,Dz];exact m4
  rename_i Z;rw[Z]at h4;subst h4;obtain⟨b,hb,N,m1,m2,m3,m4⟩:=P5 ht Y aa D ⟨g2,h3,CI (A.T.mono u) (λ _ _ _=>rfl),A.s.mono u⟩ (D J h2 u) hx;refine⟨b,M b hb,N,h2.trans m1 u,fI u m2,m3,?_⟩;unfold pF;rw[ac,eT,eS,show ak.un=ev F .un from Q,Dz];exact m4
def Y3(ht:kh C.tb)(Y:zw P C)(ab:F2 P C aae SI cl)(D:∀{ρ ρ':bC} {K K':XK},SI ρ K->dj K.nx ρ ρ'->K.nx<=K'.nx->SI ρ' K'):∀{l:jh} {i:R} {Z:iq} {a:XA} {r:MI} {ρ:bC},uG C.tb ρ a->SI ρ a.k->Le C cl n bef l i Z a=O r->
 EG C.tb ρ a.k (λ ρ' Z' b=>nD P gl aae n bef l i Z (dw ρ a.T) (bX ρ a.s)=O (Z',dw ρ' b.T,bX ρ' b.s)) r
 |[],i,Z,a,r,ρ,A,J,h=>by cases h;exact⟨(Z,a),cJ.2 Q,ρ,.rfl,aZ _,A,Q⟩
 |e::l,i,Z,a,r,ρ,A,J,h=>by
  unfold Le at h;split at h<;>try cases h
  rename_i gs ah;obtain⟨b0,ad,h1,g,ac,F,h2,h3,h4⟩:=aaJ A.b A.k A.T ah;obtain⟨x,hx,M⟩:=vO h g ac;obtain⟨u,g2,_⟩:=h1 g ac;have eT:=A.T ρ F h2;have eS:=A.s ρ F h2;split at hx
  .rename_i aa;rw[aa]at h4;subst h4;split at hx<;>try cases hx
   rename_i rs af;obtain⟨r1,ag,ae,k1,k2,⟨k3,k4,k5,k6⟩,k7⟩:=P7 (gl:=gl) ht Y ab g2 h3 (D J h2 u) (A.T.mono u) (A.s.mono u) af;obtain⟨y,hy,S⟩:=vO hx r1 ag;split at hy<;>try cases hy
   rename_i Z' hZ;obtain⟨b,hb,N,m1,m2,m3,m4⟩:=Y3 ht Y ab D ⟨k4,k2,CI (Yp (A.T.mono (fI u k3)) _) k5,k6⟩ (D (D J h2 u) k1 k3) hy;refine⟨b,M b (S b hb),N,(h2.trans k1 u).trans m1 (fI u k3),fI (fI u k3) m2,m3,?_⟩;unfold nD;rw[ad,eT,eS];simp only[k7,hZ];rw[(A.T.mono u) F ae k1,FR,Dz];exact m4
  rename_i aa;rw[aa]at h4;subst h4;obtain⟨b,hb,N,m1,m2,m3,m4⟩:=Y3 ht Y ab D ⟨g2,h3,CI (A.T.mono u) (λ _ _ _=>rfl),A.s.mono u⟩ (D J h2 u) hx;refine⟨b,M b hb,N,h2.trans m1 u,fI u m2,m3,?_⟩;unfold nD;rw[ad,eT,eS,show ak.un=ev F .un from Q,Dz];exact m4
def Ci(ρ:bC)(Uqq:XT)(dX:VT):Prop:=∀t,X4 (vB Uqq t)=V->mq dX t=ev ρ (vB Uqq t)
def ayE{n:R}{T:VT}{v:ak}:mq (fk n T d v) t=(match d with|none=>mq T t|some d=>if d<n then(if d=t then v else mq T t)else mq T t):=by
 cases d;.rfl
 rename_i d;unfold fk;simp;split
 .by_cases h:d=t;.rw[aY h];subst h;show(match(if d=d then O v else lk T d)with|some v=>v|none=>_)=v;rw[aY Q]
  rw[aR h];show(match(if d=t then O v else lk T t)with|some v=>v|none=>_)=_;rw[aR h];rfl
 rfl
def aCe{n:R}{T:XT}:vB (tC n T d v) t=(match d with|none=>vB T t|some d=>if d<n then(if d=t then v else vB T t)else vB T t):=by
 cases d;.rfl
 rename_i d;unfold tC;simp;split
 .by_cases h:d=t;.rw[aY h];subst h;show(match(if d=d then O v else lk T d)with|some v=>v|none=>_)=v;rw[aY Q]
  rw[aR h];show(match(if d=t then O v else lk T t)with|some v=>v|none=>_)=_;rw[aR h];rfl
 rfl
def aoo{ρ:bC}(h:Ci ρ Uqq dX){n:R}{x:XV}{v:ak}(y:X4 x=V->v=ev ρ x):Ci ρ (tC n Uqq d x) (fk n dX d v):=λ t u=>by
 rw[aCe]at u⊢;rw[ayE];cases d;.exact h t u
 rename_i d;simp at u⊢;by_cases h1:d<n
 .rw[aY h1]at u⊢;rw[aY h1];by_cases h2:d=t;.rw[aY h2]at u⊢;exact(aY h2)▸y u
  rw[aR h2]at u⊢;exact(aR h2)▸h t u
 rw[aR h1]at u⊢;exact(aR h1)▸h t u
def ai3{ρ ρ':bC}{n:R}(h:Ci ρ Uqq dX)(A:lD n Uqq)(y:dj n ρ ρ'):Ci ρ' Uqq dX:=λ t u=>(h t u)▸Wu A t ρ ρ' y
def Rz{ρ:bC}(h:Ci ρ Uqq dX){x:eK}(hx:U0 Uqq x=V):cq gl dX x=cq gl (dw ρ Uqq) x:=by
 cases x with
 |t i=>
  show O _=O _;rw[h i hx,CW]
 |_=>rfl
def aIi{ρ:bC}{st:aG}(h:Ci ρ Uqq dX){u:wH}(y:alR o=O u)(hx:u.all (U0 Uqq)=V):bw P gl oc dX st d o=bw P gl oc (dw ρ Uqq) st d o:=by
 have hx:=iw.1 hx;cases o<;>cases y
 iterate 3 (show oB _ _=oB _ _;rw[Rz h (hx _ aw)])
 .show oB _ _=oB _ _;rw[Rz h (hx _ aw),Rz h (hx _ aw)]
 iterate 2 (show oB _ _=oB _ _;rw[Rz h (hx _ aw)])
def aHK:F2 P C oc SI noX:=nofun
def asy{SI:Y5}(Z:kh C.tb)(J:zw P C){ρ:bC}(hU:Ci ρ Uqq dX){K:XK}(hb:cS K)(hk:bV C.tb ρ K)(N:lD K.nx Uqq)(hs:lH K.nx s0){f:mi}
 (h:D5 C es Uqq s0 K d o e=O (v,f)):nG es e (bw P gl oc dX (bX ρ s0) d (wv o))=O (ev ρ v,f)/\bD K.nx v:=by
 unfold D5 at h;split at h<;>try cases h
 rename_i xs F;split at h<;>try cases h
 rename_i y;split at h<;>try cases h
 rename_i a ha;split at h<;>try cases h
 rename_i hn;split at h<;>cases h;rename_i f' u;obtain⟨r,hr,A,Y,k2,⟨k3,k4,D,k6⟩,S⟩:=P7 Z J (aHK (SI:=λ _ _=>True)) hb hk sp N hs ha;obtain rfl:=cJ.1 hr;rw[cI hn]at D;rw[aIi hU F y,S];refine⟨?_,D⟩;rw[D ρ A Y];unfold anD at u;split at u;.rename_i e1;cases u;simp[nG,e1]
 .rename_i e1;cases u;simp[nG,e1]
 .rename_i e1;split at u<;>cases u;rename_i M;simp[nG,e1,M]
 .cases u
structure ZR (Zv Zx:iq):Prop where
 p:Zv.bM=Zx.bM
 e:Zv.es=Zx.es
 a:Zv.al=Zx.al
 n:Zv.an=Zx.an
 r:∀x∈Zv.rs,x∈Zx.rs
def arQ(h:ZR Zv Zx){bef:bG}(u:nM bef i Zx e=O Z'):∃D,nM bef i Zv e=O D/\ZR D Z':=by
 obtain⟨p,es,al,an,rs⟩:=Zv;obtain⟨P,K,N,M,rs'⟩:=Zx;obtain⟨h1,h2,J,F,h5⟩:=h;subst h1 h2 J F
 have cons:∀(x) y,y∈x::rs->y∈x::rs':=λ x y A=>by
  rcases cg.1 A with rfl|A
  .exact dJ
  exact cV _ (h5 y A)
 cases e with
 |pure=>cases u;exact⟨_,Q,Q,Q,Q,Q,h5⟩
 |read b=>
  cases b
  .cases p;.cases u;exact⟨_,Q,Q,Q,Q,Q,h5⟩
   rename_i a l;cases al;.cases u;exact⟨_,Q,Q,Q,Q,Q,cons _⟩
   cases u
  rename_i b;cases an;.cases u;exact⟨_,Q,Q,Q,Q,Q,cons _⟩
  cases al;.cases u;exact⟨_,Q,Q,Q,Q,Q,cons _⟩
  cases u
 |new b=>cases u;exact⟨_,Q,Q,Q,Q,Q,h5⟩
 |eO d=>
  unfold nM at u⊢;simp at u⊢;split at u<;>cases u;exact⟨_,Q,Q,Q,Q,Q,h5⟩
 |zg=>cases u
def avO{Z:iq}{bef:bG}{b:lY}(u:nM bef i Z (.read b)=O Z'):Z'.bM=Z.bM/\Z'.es=Z.es/\Z'.al=Z.al/\Z'.an=Z.an/\∀x∈Z.rs,x∈Z'.rs:=by
 obtain⟨p,es,al,an⟩:=Z;cases b
 .cases p;.cases u;exact⟨Q,Q,Q,Q,λ _ hx=>hx⟩
  rename_i a l;cases al;.cases u;exact⟨Q,Q,Q,Q,λ _ hx=>cV _ hx⟩
  cases u
 rename_i b;cases an;.cases u;exact⟨Q,Q,Q,Q,λ _ hx=>cV _ hx⟩
 cases al;.cases u;exact⟨Q,Q,Q,Q,λ _ hx=>cV _ hx⟩
 cases u
def aCH(h:ZR Zv Zx){bef:bG}{q:WL}{w:GS}(P:∀v f,q=O (v,f)->∃A,w=O (A,f))(u:XR bef i Zx e q=O Z')(N:∀v,w=O (v,V)->∃b,e=.read b):
 ∃y,zp Zv (nM bef i Zv e) w=O y/\ZR y Z':=by
 unfold XR at u;split at u;.rename_i v;cases u;obtain⟨A,rfl⟩:=P v V Q;exact⟨Zv,Q,h⟩
 .obtain⟨y,h1,h2⟩:=arQ h u;cases w;.exact⟨y,h1,h2⟩
  rename_i p;obtain⟨A,f⟩:=p;cases f;.exact⟨y,h1,h2⟩
  obtain⟨b,rfl⟩:=N A Q;refine⟨Zv,Q,?_⟩;obtain⟨e1,e2,e3,e4,e5⟩:=h;obtain⟨M,K,J,F,D⟩:=(avO u);exact⟨by rw[e1,M],by rw[e2,K],by rw[e3,J],by rw[e4,F],λ x hx=>D x (e5 x hx)⟩
def aIx{r:kX}{v:ak}(h:nG es e r=O (v,V)):∃b,e=.read b:=by
 unfold nG at h;split at h;.cases h
 .exact⟨_,Q⟩
 .split at h<;>cases h
 cases h
def Xr{SI:Y5}(ht:kh C.tb)(S:zw P C)(ah:F2 P C aae SI cl)(F:∀{ρ ρ':bC} {K K':XK},SI ρ K->dj K.nx ρ ρ'->K.nx<=K'.nx->SI ρ' K'):∀{l:jh} {i:R} {Z Zv:iq} {a:XA} {Uqq:XT} {dX:VT} {r:MI} {ρ:bC},uG C.tb ρ a->SI ρ a.k->ZR Zv Z->Ci ρ Uqq dX->lD a.k.nx Uqq->lH a.k.nx s0->Mj C cl n bef s0 l i Z a Uqq=O r->
 EG C.tb ρ a.k (λ ρ' Z' b=>∃Z2,ZR Z2 Z'/\oG P gl aae n bef (bX ρ s0) l i Zv (dw ρ a.T) dX (bX ρ a.s)=O (Z2,dw ρ' b.T,bX ρ' b.s)) r
 |[],i,Z,Zv,a,Uqq,dX,r,ρ,D,Y,hz,hu,M,N,h=>by cases h;exact⟨(Z,a),cJ.2 Q,ρ,.rfl,aZ _,D,Zv,hz,Q⟩
 |e::l,i,Z,Zv,a,Uqq,dX,r,ρ,D,Y,hz,hu,M,N,h=>by
  unfold Mj at h;split at h<;>try cases h
  rename_i gs av;obtain⟨b0,ap,h1,g,an,A,h2,h3,h4⟩:=aaJ D.b D.k D.T av;obtain⟨x,hx,aa⟩:=vO h g an;obtain⟨u,g2,_⟩:=h1 g an;have eT:=D.T ρ A h2;have eS:=D.s ρ A h2;have e0:=N ρ A h2;have al:=ai3 hu M h2;split at hx
  .rename_i ag;rw[ag]at h4;subst h4;split at hx<;>try cases hx
   rename_i rs ar;obtain⟨r1,au,ae,k1,k2,⟨k3,k4,k5,k6⟩,k7⟩:=P7 (gl:=gl) ht S ah g2 h3 (F Y h2 u) (D.T.mono u) (D.s.mono u) ar;obtain⟨y,hy,af⟩:=vO hx r1 au;simp only at hy;split at hy<;>try cases hy
   rename_i Z' hZ;have aj:=ai3 al (M.mono u) k1;have ai:=(N.mono u) A ae k1;have ab:=M.mono (fI u k3);have ac:=N.mono (fI u k3);have J:∀v f,D5 C _ Uqq s0 _ _ e.o _=O (v,f)->nG Zv.es r1.e (bw P gl oc dX (bX ρ s0) e.d _)=O _/\bD _ v:=λ v f hv=>by rw[hz.e,e0,ai];exact asy (SI:=SI) ht S aj k4 k2 ab ac hv
   obtain⟨Z2,z1,z2⟩:=aCH hz (λ v f hv=>⟨_,(J v f hv).1⟩) hZ (λ v hv=>aIx hv)
   have aq:Ci ae (tC n Uqq e.d (adj (D5 C Z.es Uqq s0 r1.k e.d e.o r1.e))) (fk n dX e.d (Bv (nG Zv.es r1.e (bw P gl oc dX (bX ρ s0) e.d (wv e.o))))):=by
    refine aoo aj λ am=>?_
    cases hq:D5 C _ Uqq s0 _ _ _ _;.rw[hq]at am;cases am
    rename_i p;obtain⟨v,f⟩:=p;rw[(J v f hq).1];rfl
   have ao:lD r1.k.nx (tC n Uqq e.d (adj (D5 C Z.es Uqq s0 r1.k e.d e.o r1.e))):=by
    refine CI ab ?_;cases hq:D5 C _ Uqq s0 _ _ _ _;.exact λ _ _ _=>rfl
    rename_i p;obtain⟨v,f⟩:=p;exact(J v f hq).2
   obtain⟨b,hb,ad,m1,m2,m3,Z3,m4,m5⟩:=Xr ht S ah F ⟨k4,k2,CI (Yp (D.T.mono (fI u k3)) _) k5,k6⟩ (F (F Y h2 u) k1 k3) z2 aq ao ac hy;refine⟨b,aa b (af b hb),ad,(h2.trans k1 u).trans m1 (fI u k3),fI (fI u k3) m2,m3,Z3,m4,?_⟩;unfold oG;rw[ap,eT,eS];simp only[k7,z1];rw[(D.T.mono u) A ae k1,FR,Dz,e0,ai];rw[e0,ai]at m5
   first|exact m5
  rename_i ag;rw[ag]at h4;subst h4;obtain⟨b,hb,ad,m1,m2,m3,Z3,m4,m5⟩:=Xr ht S ah F ⟨g2,h3,CI (D.T.mono u) (λ _ _ _=>rfl),D.s.mono u⟩ (F Y h2 u) hz (aoo al λ _=>rfl) (CI (M.mono u) (λ _ _ _=>rfl)) (N.mono u) hx;refine⟨b,aa b hb,ad,h2.trans m1 u,fI u m2,m3,Z3,m4,?_⟩;unfold oG;rw[ap,eT,eS,show ak.un=ev A .un from Q,Dz,e0];exact m5
def aE0:∀{a b:L8},(∀x∈a,x∈b)->vC bef es b=true->vC bef es a=true:=by
 have all:∀{b},vC bef es b=true->∀x∈b,pG bef x.1 (Dx x.2.1 x.2.2 es) es X=true:=by
  intro b;induction b with
  |nil=>intro _ x hx;cases hx
  |cons y l u=>
   intro h x hx;unfold vC at h;rw[bq]at h;rcases cg.1 hx with rfl|hx
   .exact h.1
   exact u h.2 x hx
 intro a;induction a with
 |nil=>intro b _ _;rfl
 |cons y l u=>
  intro b A h;unfold vC;rw[all h y (A y dJ),u (λ x hx=>A x (cV _ hx)) h];rfl
def ady{bF:aG}:∀{l:jh} {i:R} {Z Z':iq} {T Uqq:VT} {st:aG} {x y:iq×VT×aG},nD P gl aae n bef l i Z T st=O x->oG P gl aae n bef bF l i Z' T Uqq st=O y->x.2=y.2
 |[],i,Z,Z',T,Uqq,st,x,y,h,k=>by cases h;cases k;rfl
 |e::l,i,Z,Z',T,Uqq,st,x,y,h,k=>by
  unfold nD at h;unfold oG at k;split at h
  .rename_i u;rw[u]at k;split at h<;>try cases h
   rename_i r A;rw[A]at k;simp at k;split at h
   .split at k;.exact ady h k
    cases k
   cases h
  .rename_i u;rw[u]at k;exact ady h k
  cases h
def awm(ht:kh C.tb)(A:zw P C)(F:F2 P C aae SI cl)(M:∀{ρ ρ':bC} {K K':XK},SI ρ K->dj K.nx ρ ρ'->K.nx<=K'.nx->SI ρ' K'){l:jh}{a:XA}{r:B XA}{ρ:bC}(S:uG C.tb ρ a)(D:SI ρ a.k)(h:ZD C cl n l bef a=O r):
 ∃b∈r,∃ρ',dj a.k.nx ρ ρ'/\a.k.nx<=b.k.nx/\uG C.tb ρ' b/\yU P gl aae n l bef (dw ρ a.T) (bX ρ a.s)=O (dw ρ' b.T,bX ρ' b.s):=by
 unfold ZD at h;split at h
 .rename_i r' N;cases h;unfold S7 at N;split at N;.rename_i rs y;split at N<;>cases N;rename_i u;obtain⟨b,J,ρ',h1,h2,Z,Y⟩:=Y3 ht A F M S D y;refine⟨b.2,lO.2 ⟨b,J,Q⟩,ρ',h1,h2,Z,?_⟩;unfold yU;rw[Y,wy,iw.1 u b J];rfl
  cases N
 .unfold S7 at h;split at h<;>try cases h
  rename_i rs y;split at h<;>cases h;rename_i u;obtain⟨b,J,ρ',h1,h2,Z,Z2,Y,h5⟩:=Xr ht A F M S D ⟨Q,Q,Q,Q,λ _ hx=>hx⟩ (λ t _=>CW) S.T S.s y;refine⟨b.2,lO.2 ⟨b,J,Q⟩,ρ',h1,h2,Z,?_⟩;unfold yU;rw[h5];have e2:wy bef (O (Z2,dw ρ' b.2.T,bX ρ' b.2.s))=O (dw ρ' b.2.T,bX ρ' b.2.s):=by unfold wy;simp[Y.e▸aE0 Y.r (iw.1 u b J)]
  rw[e2];cases hd:nD P gl aae n bef l 0 _ _ _;.rfl
  rename_i x;unfold wy;simp;cases aa:vC bef _ _;.rfl
  exact fP O (ady hd h5)
theorem R4(u:bD n v)(A:dj n ρ ρ'):mW ρ (O v)=mW ρ' (O v):=by
 cases v with
 |int k y d=>show SV.mk _ _ _ _=SV.mk _ _ _ _;rw[A y u.int]
 |sl y o=>exact A y u.sl
 |bs y=>exact A y u.bs
 |ss y=>exact A y u.ss
 |sx es o=>
  have:=u ρ ρ' A;simp[ev]at this;show SV.mk _ _ _ _=SV.mk _ _ _ _;rw[this]
 |sc a=>cases a<;>rfl
 |_=>rfl
def BdO(n:R)(o:kt):Prop:=∀v,o=O v->bD n v
def gV.mem{E:cX}(h:gV n E):∀o∈E,BdO n o:=λ o y v u=>by obtain⟨i,A⟩:=Cz y;subst u;exact h i v A
def alW{o:kt}(u:BdO n o)(y:dj n ρ ρ'):mW ρ o=mW ρ' o:=by
 cases o;.rfl
 rename_i v;exact R4 (u v Q) y
def TI:∀{E:cX} {nx:R} {ρ:bC},0<nx->(∀o∈E,BdO nx o)->∃u,dj nx ρ u/\nx<=(eQ E nx).2/\iS (eQ E nx).2 (eQ E nx).1/\(eQ E nx).1.map (ij u)=E.map (mW ρ)
 |[],nx,ρ,Z,hE=>⟨ρ,.rfl,aZ _,(λ e P=>absurd P lr),Q⟩
 |o::E,nx,ρ,Z,hE=>by
  have J:=λ M F=>hE M (cV _ F)
  have F:=hE o dJ
  have A:∀K,(match K with|.i y _=>y<nx|.s y=>y<nx)->(∀ρ,ij ρ K=mW ρ o)->eQ (o::E) nx=(K::(eQ E nx).1,(eQ E nx).2)->
   ∃u,dj nx ρ u/\nx<=(eQ (o::E) nx).2/\iS (eQ (o::E) nx).2 (eQ (o::E) nx).1/\(eQ (o::E) nx).1.map (ij u)=(o::E).map (mW ρ):=by
   intro K N hp P;obtain⟨u,h1,h2,Y,S⟩:=TI Z J;rw[P];refine⟨u,h1,h2,iS.cons ?_ Y,by rw[nA,nA,S,hp,alW F h1]⟩
   .cases K with
    |i y d=>exact eU N h2
    |s y=>exact eU N h2
  have fresh:eQ (o::E) nx=(.s nx::(eQ E (nx+1)).1,(eQ E (nx+1)).2)->
   ∃u,dj nx ρ u/\nx<=(eQ (o::E) nx).2/\iS (eQ (o::E) nx).2 (eQ (o::E) nx).1/\(eQ (o::E) nx).1.map (ij u)=(o::E).map (mW ρ):=by
   intro P
   let ρ0:=λ y=>if y=nx then mW ρ o else ρ y
   have ag:dj nx ρ ρ0:=λ y hy=>by show _=if y=nx then _ else _;rw[aR (by omega)]
   obtain⟨u,h1,h2,Y,S⟩:=TI (AZ nx) λ M D v hv=>(J M D v hv).mono (mS nx)
   rw[P];refine⟨u,ag.trans h1 (mS _),Nat.le_of_succ_le h2,iS.cons (eU (kF nx) h2) Y,?_⟩;rw[nA,S];have e1:ij u (.s nx)=mW ρ o:=by show u nx=_;rw[<-h1 nx (kF nx)];show(if nx=nx then _ else _)=_;rw[aY Q]
   congr 1
   exact mH λ M D=>(alW (J M D) ag).symm
  cases o;.exact fresh Q
  rename_i v;cases v with
  |int k y d=>exact A _ (F _ Q).int (λ _=>rfl) Q
  |sl y oo=>exact A _ (F _ Q).sl (λ _=>rfl) Q
  |bs y=>exact A _ (F _ Q).bs (λ _=>rfl) Q
  |ss y=>exact A _ (F _ Q).ss (λ _=>rfl) Q
  |_=>exact fresh Q
def af4(σ:Sub):pull ρ σ=aX (σ.map (ij ρ)):=rfl
mutual
theorem aoC:∀{v w:XV},tc v w=V->ev ρ v=ev ρ w:=by
 intro v w h;cases v<;>cases w<;>first|(simp[tc]at h;done)|skip
 .simp only[tc]at h;rw[akw h]
 .simp only[tc,bq]at h;rw[jL h.1.1,cI h.1.2,jL h.2]
 .simp only[tc]at h;rw[cI h]
 .simp only[tc]at h;rw[cI h]
 .simp only[tc,bq]at h;rw[cI h.1,jL h.2]
 .simp only[tc,bq]at h;rw[jL h.2];show ak.sl _ _=.sl _ _;rw[ani h.1]
 .simp only[tc,bq]at h;rw[cI h.1.1,cI h.1.2,cI h.2]
 .simp only[tc,bq]at h;rw[cI h.2];show ak.rp _ _=.rp _ _;rw[CK h.1]
 .simp only[tc,bq]at h;rw[cI h.1.1.1,cI h.1.1.2,cI h.1.2,cI h.2]
 .simp only[tc,bq]at h;rw[cI h.1];show ak.fn _ _=.fn _ _;rw[CK h.2]
 .simp only[tc]at h;show ak.agg _=.agg _;rw[CK h]
 .simp only[tc]at h;show ak.bp _=.bp _;rw[CK h]
 rfl
theorem CK:∀{v w:B XV},xq v w=V->aT ρ v=aT ρ w
 |[],[],_=>rfl
 |v::l,w::r,h=>by simp only[xq,bq]at h;show ev ρ v::aT ρ l=ev ρ w::aT ρ r;rw[aoC h.1,CK h.2]
 |[],_::_,h=>by simp[xq]at h
 |_::_,[],h=>by simp[xq]at h
theorem ani:∀{v w:B (B XV)},JB v w=V->fH ρ v=fH ρ w
 |[],[],_=>rfl
 |v::l,w::r,h=>by simp only[JB,bq]at h;show aT ρ v::fH ρ l=aT ρ w::fH ρ r;rw[CK h.1,ani h.2]
 |[],_::_,h=>by simp[JB]at h
 |_::_,[],h=>by simp[JB]at h
end
end
section
variable{Uqq:B (R×Eb)}{a:XA}{ch:sd}{r:bC}
variable{ρ ρ':bC}{C:fS}{K K':XK}{P:aA}{gl:bH}{aae:eE}{T:XT}{s:XS}{n:R}
def xP(ρ r:bC)(ch:sd)(T:XT):VT:=T.map λ p=>(p.1,match lk ch p.1 with|O q=>ev r q|X=>ev ρ p.2)
def pW(ρ r:bC)(ch:Eb)(F:oC):xH:=F.map λ p=>(p.1,match lk ch p.1 with|O q=>aT r q|X=>aT ρ p.2)
def sD(ρ r:bC)(Uqq:B (R×Eb)):mL->gC
 |[]=>[]
 |F::S=>pW ρ r (chU Uqq S.length) F::sD ρ r Uqq S
def chS(ρ r:bC)(I:Inv)(w:mi)(s:XS):aG:=⟨w,pW ρ r I.Bqq s.cur,sD ρ r I.Uqq s.up⟩
def agd(σ:Sub)(Uqq:B (R×Eb)):∀S:mL,(vU σ Uqq S).length=S.length
 |[]=>rfl
 |F::S=>by show(vU σ Uqq S).length+1=S.length+1;rw[agd σ Uqq S]
theorem aiX(h0:ρ 0=SV.z)(σ:Sub)(ch:sd):∀T:XT,dw ρ (FF σ ch T)=xP ρ (pull ρ σ) ch T
 |[]=>rfl
 |(i,v)::T=>by show(i,ev ρ _)::dw ρ _=(i,match lk ch i with|O q=>ev _ q|X=>ev ρ v)::xP ρ _ ch T;rw[aiX h0 σ ch T];grind[MU]
theorem ZH(h0:ρ 0=SV.z)(σ:Sub)(ch:Eb):∀T:oC,dH ρ (yI σ ch T)=pW ρ (pull ρ σ) ch T
 |[]=>rfl
 |(i,v)::T=>by show(i,aT ρ _)::dH ρ _=(i,match lk ch i with|O q=>aT _ q|X=>aT ρ v)::pW ρ _ ch T;rw[ZH h0 σ ch T];grind[Ce]
theorem aeB(h0:ρ 0=SV.z)(σ:Sub)(Uqq:B (R×Eb)):∀S:mL,(vU σ Uqq S).map (dH ρ)=sD ρ (pull ρ σ) Uqq S
 |[]=>rfl
 |F::S=>by show dH ρ _::(vU σ Uqq S).map _=pW ρ _ _ F::sD ρ _ Uqq S;rw[ZH h0,aeB h0 σ Uqq S]
theorem adv(F:bV C.tb ρ K):∀{T H:XT} {E A:cX},gV K.nx E->(∀p∈T,bD K.nx p.2)->N8 K ch T H E=O A->qg C.tb ρ K.nx E A λ r=>dw ρ T=xP ρ r ch H
 |[],[],E,A,hE,J,h=>by cases h;exact⟨.rfl,hE,λ _ _=>rfl⟩
 |(i,v)::T,(j,w)::H,E,A,hE,J,h=>by
  unfold N8 at h;split at h<;>try cases h
  rename_i u;have u:=cI u;subst u;have y:=λ p D=>J p (cV _ D)
  split at h
  .rename_i p D;split at h<;>try cases h
   rename_i Z h1;obtain⟨Y,S,P⟩:=KV F hE (J _ dJ) h1;obtain⟨b1,b2,b3⟩:=adv F S y h;refine⟨Y.trans b1,b2,λ N M=>?_⟩;show(i,ev ρ v)::dw ρ T=(i,match lk ch i with|some q=>ev _ q|none=>ev ρ w)::xP ρ _ ch H;rw[D];simp only;rw[P N (b1.trans M),b3 N M]
  split at h;.obtain⟨b1⟩:=adv F hE y h;grind[dw,xP,aoC]
  cases h
 |[],_::_,_,_,_,_,h=>by cases h
 |_::_,[],_,_,_,_,h=>bk
theorem Rg(F:bV C.tb ρ K){ch:Eb}:∀{T H:oC} {E A:cX},gV K.nx E->(∀p∈T,fM K.nx p.2)->IM K ch T H E=O A->qg C.tb ρ K.nx E A λ r=>dH ρ T=pW ρ r ch H
 |[],[],E,A,hE,J,h=>by cases h;exact⟨.rfl,hE,λ _ _=>rfl⟩
 |(i,v)::T,(j,w)::H,E,A,hE,J,h=>by
  unfold IM at h;split at h<;>try cases h
  rename_i u;have u:=cI u;subst u;have y:=λ p D=>J p (cV _ D)
  split at h
  .rename_i p D;split at h<;>try cases h
   rename_i Z h1;obtain⟨Y,S,P⟩:=E7 F hE (J _ dJ) h1;obtain⟨b1,b2,b3⟩:=Rg F S y h;refine⟨Y.trans b1,b2,λ N M=>?_⟩;show(i,aT ρ v)::dH ρ T=(i,match lk ch i with|some q=>aT _ q|none=>aT ρ w)::pW ρ _ ch H;rw[D];simp only;rw[P N (b1.trans M),b3 N M]
  split at h;.obtain⟨b1⟩:=Rg F hE y h;grind[dH,pW,CK]
  cases h
 |[],_::_,_,_,_,_,h=>by cases h
 |_::_,[],_,_,_,_,h=>bk
def alP(A:bV C.tb ρ K):∀{S H:mL} {E u:cX},gV K.nx E->(∀F∈S,∀p∈F,fM K.nx p.2)->OZ K Uqq S H E=O u->S.length=H.length/\qg C.tb ρ K.nx E u λ r=>S.map (dH ρ)=sD ρ r Uqq H
 |[],[],E,u,hE,y,h=>by cases h;exact⟨Q,.rfl,hE,λ _ _=>rfl⟩
 |F::S,G::Rqq,E,u,hE,y,h=>by
  unfold OZ at h;split at h<;>try cases h
  rename_i M;split at h;.rename_i E1 h1;obtain⟨Z,Y,P⟩:=Rg A hE (y F dJ) h1;obtain⟨b0,b1,b2,b3⟩:=alP A Y (λ F' N=>y F' (cV _ N)) h;refine⟨bP,Z.trans b1,b2,λ J D=>?_⟩;show dH ρ F::S.map _=pW ρ _ _ G::sD ρ _ Uqq Rqq;rw[P J (b1.trans D),b3 J D,cI M]
  cases h
 |[],_::_,_,_,_,_,h=>by cases h
 |_::_,[],_,_,_,_,h=>bk
theorem ag3(y:kh C.tb)(D:cS K)(A:bV C.tb ρ K):∀{fs:B um} {E u:cX},gV K.nx E->Sz C K E fs=O u->nJ E u/\gV K.nx u/\∃l∈fs,∀F,nJ u F->∀f∈l,cL C.tb (ft ρ F) f
 |[],E,u,hE,h=>by cases h
 |l::fs,E,u,hE,h=>by
  unfold Sz at h;split at h;.rename_i M h1;obtain⟨J⟩:=(C9 y cF).fs D A hE h1;grind[aju]
  obtain⟨J⟩:=ag3 y D A hE h;grind
theorem QK{T:XT}(h:lD n T):∀p∈T,bD n p.2:=λ p u ρ ρ' y=>by have:=KQ.1 (h ρ ρ' y) p u;grind
theorem Li(h:lH n s):∀p∈s.cur,fM n p.2:=λ p u ρ ρ' y=>by have:=KQ.1 ((fP aG.cur (h ρ ρ' y))) p u;grind
theorem av0(u:cS K)(y:∀v∈refs,bD K.nx v):gV K.nx (O (.int .i64 0 0)::ef I.k X++refs.map O):=by
 intro x v hx;rcases wa.1 (iD hx)with hm|hm
 .rcases cg.1 hm with hm|hm
  .cases hm;exact gL u.z
  grind
 grind
def Jr(ρ:bC)(I:Inv)(refs:dB)(r:bC):Prop:=∃u:sY,u.length=I.k/\r=aX (SV.z::u++refs.map λ v=>mW ρ (O v))
theorem ate(A:bV C.tb ρ K){E:cX}(u:nJ (some (.int .i64 0 0)::ef I.k X++refs.map some) E):Jr ρ I refs (ft ρ E):=by
 have y:E.length=1+I.k+refs.length:=by rw[<-u.1,kQ,rO,mw,br];omega
 refine⟨((E.drop 1).take I.k).map (mW ρ),bP,?_⟩;unfold ft
 have h0:E.take 1=[some (.int .i64 0 0)]:=by
  have:=u.2 0 _ Q;cases E;.simp at this
  rename_i o E;simp at this;subst this;rfl
 have h2:E.drop (1+I.k)=refs.map some:=by
  refine sI λ x=>?_
  rw[Eu];by_cases hx:x<refs.length;.rw[(bP:(refs.map some)[x]? =some (some refs[x]))];refine u.2 _ _ ?_;grind
  grind
 have e1:E=E.take 1++((E.drop 1).take I.k++E.drop (1+I.k)):=by grind[ahy]
 conv=>lhs;rw[e1]
 rw[h0,h2,zD,zD,nA,(show mW ρ _=SV.z by show SV.mk _ _ _ _=_;rw[A.z];rfl),lP];rfl
theorem ayG(y:∀v∈refs,bD n v)(A:dj n ρ ρ')(h:Jr ρ' I refs r):Jr ρ I refs r:=by obtain⟨u,h1,h2⟩:=h;refine⟨u,h1,?_⟩;grind[acL,R4]
theorem aCB(J:lD n T)(D:lH n s)(y:cS K)(M:K.nx=n){r:Hg}(h:Al T s K r=O v):bD n v:=by
 subst M
 have box:∀{k o:R} {cs} {w},lk s.cur k=O cs->cs[o]? =O w->bD K.nx w:=by
  intro k o cs w h1 h2
  have u:fM _ cs:=λ ρ ρ' A=>by
   have e1:lk (dH ρ s.cur) k=O (aT ρ cs):=by rw[Fh,h1];rfl
   have e2:lk (dH ρ' s.cur) k=O (aT ρ' cs):=by rw[Fh,h1];rfl
   have e3:dH ρ _=dH ρ' _:=fP aG.cur (D ρ ρ' A);grind
  exact u.mem (iD h2)
 cases r with
 |t i=>
  rw[Al]at h;split at h<;>cases h;rename_i e;exact gL (ajH J e).int
 |l i=>
  rw[Al]at h;split at h;.split at h<;>cases h;rename_i e2;exact gL (y.fs _ (qH e2)).2.1
  .cases h;exact gL y.z
  cases h
 |b k o=>
  rw[Al]at h;split at h;.rename_i cs e;split at h<;>cases h;rename_i e2;exact gL (box e e2).int
  cases h
 |bl k o=>
  rw[Al]at h;split at h
  .split at h;.split at h<;>cases h;rename_i e3;exact gL (y.fs _ (qH e3)).2.1
   .cases h;exact gL y.z
   cases h
  cases h
 |s i=>
  rw[Al]at h;split at h;.rename_i e;cases h;exact tZ (ajH J e).sl
  .grind[Hz]
  cases h
 |sb k o=>
  rw[Al]at h;split at h
  .rename_i cs e;split at h;.rename_i e2;cases h;exact tZ (box e e2).sl
   .grind[Hz]
   cases h
  cases h
 |ul j k o=>
  rw[Al]at h;split at h
  .split at h
   .split at h;.split at h<;>cases h;rename_i e3;exact gL (y.fs _ (qH e3)).2.1
    cases h
   cases h
  cases h
 |us j k o=>
  rw[Al]at h;split at h<;>try cases h
  rename_i F N;split at h
  .rename_i cs e;split at h<;>cases h;rename_i x P e2
   have u:fM _ cs:=λ ρ ρ' A=>by
    have e4:=KQ.1 (fP aG.up (D ρ ρ' A)) F (iD N);have e1:lk (dH ρ F) k=O (aT ρ cs):=by rw[Fh,e];rfl
    grind[Fh]
   exact tZ (u.mem (iD e2)).sl
  cases h
def afo(F:lD n T)(y:lH n s)(D:cS K)(A:K.nx=n):∀{l:B Hg} {v:dB},TM T s K l=O v->∀w∈v,bD n w
 |[],v,h,w,hw=>by cases h;cases hw
 |r::l,v,h,w,hw=>by
  unfold TM at h;split at h<;>cases h;rename_i a b J u;rcases cg.1 hw with rfl|hw
  .exact aCB F y D A J
  exact afo F y D A u w hw
def awl(u:iS n σ)(J:0<n){T:XT}(A:∀p∈T,bD n p.2):lD n (FF σ ch T):=by
 intro ρ ρ' y;induction T with
 |nil=>rfl
 |cons p T D=>
  obtain⟨i⟩:=p;show(i,ev ρ _)::dw ρ _=(i,ev ρ' _)::dw ρ' _;rw[D λ q F=>A q (cV _ F)];cases lk ch i;.rw[A _ dJ ρ ρ' y]
  rename_i p;rw[aao u J p ρ ρ' y]
def alw(u:iS n σ)(J:0<n){ch:Eb}{T:oC}(A:∀p∈T,fM n p.2):∀ρ ρ',dj n ρ ρ'->dH ρ (yI σ ch T)=dH ρ' (yI σ ch T):=by
 intro ρ ρ' y;induction T with
 |nil=>rfl
 |cons p T D=>
  obtain⟨i⟩:=p;show(i,aT ρ _)::dH ρ _=(i,aT ρ' _)::dH ρ' _;rw[D λ q F=>A q (cV _ F)];cases lk ch i;.rw[A _ dJ ρ ρ' y]
  rename_i p;rw[BH u J p ρ ρ' y]
theorem Mc(h:lH n s):∀F∈s.up,∀p∈F,fM n p.2:=λ F A p u ρ ρ' y=>by have:=KQ.1 ((KQ.1 ((fP aG.up (h ρ ρ' y))) F A)) p u;grind
def aeE(u:iS n σ)(y:0<n):∀{S:mL},(∀F∈S,∀p∈F,fM n p.2)->∀ρ ρ',dj n ρ ρ'->(vU σ Uqq S).map (dH ρ)=(vU σ Uqq S).map (dH ρ')
 |[],_,_,_,_=>rfl
 |F::S,D,ρ,ρ',A=>by show dH ρ _::(vU σ Uqq S).map _=dH ρ' _::(vU σ Uqq S).map _;rw[alw u y (D F dJ) ρ ρ' A,aeE u y (λ K J=>D K (cV _ J)) ρ ρ' A]
def afm(F:kh C.tb){H:XT}{y:XS}{E:cX}(u:uG C.tb ρ a)(J:∀v∈refs,bD a.k.nx v)(h:QY C I refs a.k a.T H a.s y=O E):
 Jr ρ I refs (ft ρ E)/\gV a.k.nx E/\dw ρ a.T=xP ρ (ft ρ E) I.T H/\a.s.up.length=y.up.length/\yD I a.s.w y.w=V/\bX ρ a.s=chS ρ (ft ρ E) I a.s.w y/\∃l∈I.fs,∀f∈l,cL C.tb (ft ρ E) f:=by
 unfold QY at h;split at h<;>try cases h
 rename_i D;split at h<;>try cases h
 rename_i E1 h1;split at h<;>try cases h
 rename_i E2 h2;split at h;.rename_i E3 M;obtain⟨Z,Y,S⟩:=adv u.k (av0 u.b J) (QK u.T) h1;obtain⟨b1,b2,b3⟩:=Rg u.k Y (Li u.s) h2;obtain⟨d0,d1,d2,d3⟩:=alP u.k b2 (Mc u.s) M;obtain⟨A,P,l,K,N⟩:=ag3 F u.b u.k d2 h;refine⟨ate u.k (((Z.trans b1).trans d1).trans A),P,S E ((b1.trans d1).trans A),d0,D,?_,l,K,N E .rfl⟩;show aG.mk _ _ _=aG.mk _ _ _;rw[b3 E (d1.trans A),d3 E A]
 .cases h
theorem ahg(ρ r ρ0:bC)(ch:sd)(σ:Sub):∀{T:XT},(∀p∈T,ev ρ p.2=ev ρ0 p.2)->xP ρ r ch (FF σ ch T)=xP ρ0 r ch T
 |[],_=>rfl
 |(i,v)::T,h=>by show(i,match lk ch i with|O q=>ev r q|X=>ev ρ _)::xP ρ r ch _=(i,match lk ch i with|O q=>ev r q|X=>ev ρ0 v)::xP ρ0 r ch T;rw[ahg ρ r ρ0 ch σ λ q u=>h q (cV _ u)];grind[aju]
theorem acT(ρ r ρ0:bC)(ch:Eb)(σ:Sub):∀{T:oC},(∀p∈T,aT ρ p.2=aT ρ0 p.2)->pW ρ r ch (yI σ ch T)=pW ρ0 r ch T
 |[],_=>rfl
 |(i,v)::T,h=>by show(i,match lk ch i with|O q=>aT r q|X=>aT ρ _)::pW ρ r ch _=(i,match lk ch i with|O q=>aT r q|X=>aT ρ0 v)::pW ρ0 r ch T;rw[acT ρ r ρ0 ch σ λ q u=>h q (cV _ u)];grind[aju]
def aj5(ρ r ρ0:bC)(Uqq:B (R×Eb))(σ:Sub):∀{S:mL},(∀F∈S,∀p∈F,aT ρ p.2=aT ρ0 p.2)->sD ρ r Uqq (vU σ Uqq S)=sD ρ0 r Uqq S
 |[],_=>rfl
 |F::S,h=>by show pW ρ r _ _::sD ρ r Uqq _=pW ρ0 r _ F::sD ρ0 r Uqq S;rw[agd,acT ρ r ρ0 _ σ (h F dJ),aj5 ρ r ρ0 Uqq σ λ y u=>h y (cV _ u)]
def age{ρ ρ0:bC}:∀{S:mL},(∀F∈S,∀p∈F,aT ρ p.2=aT ρ0 p.2)->sD ρ r Uqq S=sD ρ0 r Uqq S
 |[],_=>rfl
 |F::S,h=>by
  show pW ρ r _ F::sD ρ r Uqq S=pW ρ0 r _ F::sD ρ0 r Uqq S;rw[age λ A y=>h A (cV _ y)]
  congr 1
  exact mH λ p u=>by rw[h F dJ p u]
def arY{w w0:mi}(h:yD I w w0=V):w∈abn I w0:=by unfold yD at h;unfold abn;cases e:I.Uqq<;>rw[e]at h<;>cases w<;>cases w0<;>first|(cases h;done)|simp
theorem atx{a b c:mi}(h:yD I a b=true)(u:yD I b c=true):yD I a c=true:=by grind[yD]
theorem aCY{a:mi}:yD I a a=true:=by grind[yD]
abbrev Lq(P:aA)(gl:bH)(aae:eE)(n:R)(c:CC)(T:VT)(st:aG):bC->oP->XA->Prop:=λ ρ' e b=>cO P gl aae n c T st=O (e,dw ρ' b.T,bX ρ' b.s)
theorem aDO(ht:kh C.tb){h:ze}{x:CC}{ae:XA->gw zy}{u:XA}{r:zy}{ρ0:bC}{Inva:bC->Prop}(ar:∀ρ ρ',dj u.k.nx ρ ρ'->Inva ρ->Inva ρ')
 (an:∀{a:XA} {r:zy} {ρ:bC},ae a=O r->uG C.tb ρ a->Inva ρ->u.k.nx<=a.k.nx->EG C.tb ρ a.k (Lq P gl aae n x (dw ρ a.T) (bX ρ a.s)) r)
 (hg:uG C.tb ρ0 u) (hI:Inva ρ0) (hx:acm C I h ae u=O r):EG C.tb ρ0 u.k (Lq P gl aae n (.loop h x) (dw ρ0 u.T) (bX ρ0 u.s)) r:=by
 obtain⟨bT,bS⟩:=Js hg.T hg.s h;unfold acm at hx;simp only at hx;split at hx<;>try cases hx
 rename_i refs ai;split at hx<;>try cases hx
 rename_i E0 av;have ab:=afo bT bS hg.b Q ai;obtain⟨f1,f2,f3,aP,aO,f4,l0,aE,f5⟩:=afm ht (a:=⟨(jm h u.T u.s).1,(jm h u.T u.s).2,u.k⟩) ⟨hg.b,hg.k,bT,bS⟩ ab av
 have ao:∀(m:R) (q:bC) (l:um) (T:VT) (st:aG) (w:mi),yD I w (jm h u.T u.s).2.w=V->l∈I.fs->(cM q I.m.1-cM q I.m.2+1).toNat<m->Jr ρ0 I refs q->(∀f∈l,cL C.tb q f)->
  qX h T st=(xP ρ0 q I.T (jm h u.T u.s).1,chS ρ0 q I w (jm h u.T u.s).2)->EG C.tb ρ0 u.k (Lq P gl aae n (.loop h x) T st) r:=by
  intro m;induction m with
  |zero=>intro q l T st w _ _ hm;omega
  |succ m ih=>
   intro q l T st w hw hl hm hq hf aM;obtain⟨y0,ay,ah⟩:=vO hx w (arY hw);obtain⟨y,hy,af⟩:=vO ay l hl;have ap:∀z∈y,z∈r:=λ z hz=>ah z (af z hz)
   unfold aoz at hy;simp only at hy;split at hy<;>try cases hy
   rename_i am;split at hy;.cases hy
   rename_i outs aj;split at hy<;>try cases hy
   rename_i aw;obtain⟨mid,aK,aB⟩:=hq;have hn:=hg.b.z;obtain⟨ρ1,s1,s2,s3,s4⟩:=TI (E:=refs.map O) (nx:=u.k.nx+I.k) (ρ:=more ρ0 u.k.nx mid) aa (λ o ho v hv=>by subst hv;obtain⟨w,hw,he⟩:=lO.1 ho;cases he;exact(ab _ hw).mono (ad6 _ _))
   have aJ:dj u.k.nx ρ0 (more ρ0 u.k.nx mid):=acx;have ag:dj u.k.nx ρ0 ρ1:=aJ.trans s1 aa;have M:ρ1 0=SV.z:=Ql hn ag hg.k.z;have N:=iS.append (iS.cons (s:=.i 0 0) (aa:0<_) ((Tv _ _).mono s2)) s3
   have D:pull ρ1 (.i 0 0::fG I.k u.k.nx++(eQ (refs.map O) (u.k.nx+I.k)).1)=q:=by
    rw[af4,aB,zD,nA,s4,lP];have e1:ij ρ1 (.i 0 0)=SV.z:=by show SV.mk _ _ _ _=_;rw[M];rfl
    have e2:(fG I.k u.k.nx).map (ij ρ1)=mid:=by
     refine sI λ j=>?_
     rw[mu,TB];by_cases hj:j<I.k;.rw[aY hj];show O (ρ1 (u.k.nx+j))=_;rw[<-s1 (u.k.nx+j) aa];show O (if u.k.nx+j<u.k.nx then _ else mid.getD (u.k.nx+j-u.k.nx) SV.z)=_;grind
     grind
    grind[acL,R4]
   have au:uG C.tb ρ1 ⟨FF (.i 0 0::fG I.k u.k.nx++(eQ (refs.map O) (u.k.nx+I.k)).1) I.T (jm h u.T u.s).1,{w:=w,cur:=yI (.i 0 0::fG I.k u.k.nx++(eQ (refs.map O) (u.k.nx+I.k)).1) I.Bqq (jm h u.T u.s).2.cur,up:=vU (.i 0 0::fG I.k u.k.nx++(eQ (refs.map O) (u.k.nx+I.k)).1) I.Uqq (jm h u.T u.s).2.up},
    ({u.k with nx:=(eQ (refs.map O) (u.k.nx+I.k)).2}:XK).facts (l.map (Jn (.i 0 0::fG I.k u.k.nx++(eQ (refs.map O) (u.k.nx+I.k)).1)))⟩:=by
    have ac:u.k.nx<=(eQ (refs.map O) (u.k.nx+I.k)).2:=aa;have ak:0<(eQ (refs.map O) (u.k.nx+I.k)).2:=aa;refine⟨NA (RS hg.b ac) λ f hf=>?_,Iy (TS (hg.k.qI hg.b ag) _) λ f aN=>?_,?_,?_⟩;.grind[ZZ]
    .grind[Yk]
    .rw[xM];exact awl N ak λ p J=>(QK bT p J).mono ac
    .rw[xM];intro ρ ρ' ha;show aG.mk _ _ _=aG.mk _ _ _;have e1:=alw N ak (ch:=I.Bqq) (T:=(jm h u.T u.s).2.cur) (λ p J=>(Li bS p J).mono ac) ρ ρ' ha;have e2:=aeE N ak (Uqq:=I.Uqq) (S:=(jm h u.T u.s).2.up) (λ F hF p J=>(Mc bS F hF p J).mono ac) ρ ρ' ha;grind
   obtain⟨o,ho,ρ2,g1,g2,g3,g4⟩:=an aj au (ar _ _ ag hI) (by grind[xM]);rw[xM]at g1 g2;have Z:dj u.k.nx ρ0 ρ2:=ag.trans g1 bP;have aF:dw ρ1 (FF (.i 0 0::fG I.k u.k.nx++(eQ (refs.map O) (u.k.nx+I.k)).1) I.T (jm h u.T u.s).1)=xP ρ0 q I.T (jm h u.T u.s).1:=by rw[aiX M,D];exact mH λ p J=>by rw[<-(QK bT p J) ρ0 ρ1 ag]
   have aH:bX ρ1 {w:=w,cur:=yI (.i 0 0::fG I.k u.k.nx++(eQ (refs.map O) (u.k.nx+I.k)).1) I.Bqq (jm h u.T u.s).2.cur,up:=vU (.i 0 0::fG I.k u.k.nx++(eQ (refs.map O) (u.k.nx+I.k)).1) I.Uqq (jm h u.T u.s).2.up}=chS ρ0 q I w (jm h u.T u.s).2:=by
    show aG.mk _ (dH ρ1 (yI _ _ _)) _=aG.mk _ _ _;rw[ZH M,D];have e1:pW ρ1 q I.Bqq (jm h u.T u.s).2.cur=pW ρ0 q I.Bqq (jm h u.T u.s).2.cur:=mH λ p J=>by rw[<-(Li bS p J) ρ0 ρ1 ag]
    have e2:sD ρ1 q I.Uqq (jm h u.T u.s).2.up=sD ρ0 q I.Uqq (jm h u.T u.s).2.up:=age λ F hF p J=>(Mc bS F hF p J) ρ1 ρ0 ag.symm
    grind[aeB]
   rw[aF,aH]at g4;have Y:cO P gl aae n (.loop h x) T st=wO (cO P gl aae n (.loop h x)) (O (o.1,dw ρ2 o.2.T,bX ρ2 o.2.s)):=by grind[rn]
   have ad:u.k.nx<=o.2.k.nx:=fI (aa:u.k.nx<=(eQ (refs.map O) (u.k.nx+I.k)).2) g2;cases K:Y1 o.1
   .refine⟨o,ap o (He.2 ⟨ho,by rw[K];rfl⟩),ρ2,Z,ad,g3,?_⟩;show cO P gl aae n (.loop h x) T st=_;rw[Y];obtain⟨oe,oa⟩:=o;cases oe with
    |normal=>cases K
    |exit j=>rfl
    |ret=>rfl
   have A:=iw.1 aw o ho;rw[K]at A;simp only[ad1,Bool.false_or]at A;split at A
   .rename_i E hE;split at A
    .rename_i A' B' hA hB;obtain⟨tT,tS⟩:=Js g3.T g3.s h;have aq:∀v∈refs,bD o.2.k.nx v:=λ v hv=>(ab v hv).mono ad
     obtain⟨e1,e2,e3,aQ,aI,e4,l2,aD,e5⟩:=afm ht (a:=⟨(jm h o.2.T o.2.s).1,(jm h o.2.T o.2.s).2,o.2.k⟩) ⟨g3.b,g3.k,tT,tS⟩ aq hE;have az:Jr ρ0 I refs (ft ρ2 E):=ayG ab Z e1
     have aC:EG C.tb ρ0 u.k (Lq P gl aae n (.loop h x) (dw ρ2 o.2.T) (bX ρ2 o.2.s)) r:=by
      refine ih (ft ρ2 E) l2 _ _ _ (atx aI hw) aD ?_ az e5 ?_
      .have m1:=zP (ρ:=ρ2) hA nJ.rfl;have m2:=zP (ρ:=ρ2) hB nJ.rfl;have k1:cM ρ2 (yK (.i 0 0::fG I.k u.k.nx++(eQ (refs.map O) (u.k.nx+I.k)).1) I.m.1)=cM q I.m.1:=by rw[<-LI g1 (p:=yK _ _) (N.num aa _),Lg M,D]
       have k2:cM ρ2 (yK (.i 0 0::fG I.k u.k.nx++(eQ (refs.map O) (u.k.nx+I.k)).1) I.m.2)=cM q I.m.2:=by rw[<-LI g1 (p:=yK _ _) (N.num aa _),Lg M,D]
       have al:=eP au.k am;have al:cM ρ1 (yK (.i 0 0::fG I.k u.k.nx++(eQ (refs.map O) (u.k.nx+I.k)).1) I.m.2)<=cM ρ1 (yK (.i 0 0::fG I.k u.k.nx++(eQ (refs.map O) (u.k.nx+I.k)).1) I.m.1):=al;rw[Lg M,Lg M,D]at al;unfold aev at A;rw[rP,bq,bq]at A
       have aL:cM ρ2 A'-cM ρ2 B'+1<=cM q I.m.1-cM q I.m.2:=by
        rcases A with⟨h1,h2⟩|⟨h1,h2⟩
        .have q1:=eP g3.k h1;have q2:=eP g3.k h2;grind[cM]
        have q1:=eP g3.k h1;have q2:=eP g3.k h2;grind[cM]
       grind[cM]
      rw[CY];have e3:dw ρ2 (jm h o.2.T o.2.s).1=_:=e3;have e4:bX ρ2 (jm h o.2.T o.2.s).2=_:=e4;rw[e3,e4];rw[ahg ρ2 (ft ρ2 E) ρ0 I.T _ λ p J=>(QK bT p J) ρ2 ρ0 Z.symm]
      congr 1
      show aG.mk _ (pW ρ2 _ I.Bqq (yI _ _ _)) (sD ρ2 _ I.Uqq (vU _ _ _))=aG.mk _ _ _;rw[acT ρ2 (ft ρ2 E) ρ0 I.Bqq _ λ p J=>(Li bS p J) ρ2 ρ0 Z.symm,aj5 ρ2 (ft ρ2 E) ρ0 I.Uqq _ λ F hF p J=>(Mc bS F hF p J) ρ2 ρ0 Z.symm]
     obtain⟨z,hz,ax,z1,z2,z3,z4⟩:=aC;refine⟨z,hz,ax,z1,z2,z3,?_⟩;show cO P gl aae n (.loop h x) T st=_;rw[Y];obtain⟨oe,oa⟩:=o;cases oe with
     |normal=>exact z4
     |exit j=>cases K
     |ret=>cases K
    cases A
   cases A
 have f3:dw ρ0 (jm h u.T u.s).1=_:=f3;have f4:bX ρ0 (jm h u.T u.s).2=_:=f4;exact ao _ (ft ρ0 E0) l0 _ _ _ aCY aE (kF _) f1 f5 (by rw[CY,f3,f4])
end
section
variable{l:xh}
variable{ρ ρ':bC}{C:fS}{K K':XK}{P:aA}{gl:bH}{T:XT}{s:XS}{n:R}{pol:pz}{bset:uk}{base:fi}
def SU(ks:bG)(ρ:bC):Prop:=∀i:R,ks[i]? =O 0->ρ (i+1)=⟨(ρ (i+1)).i,W,[],[]⟩
def dA(u:eE)(tb:iP)(g:R)(c:Ct)(y:gw (U×U)):Prop:=∀ρ:bC,ρ 0=SV.z->SU c.ks ρ->(∀f∈c.pre,cL tb ρ f)->(∀m lo,y=O (m,lo)->∃x l,c.dec=O (x,l)/\(ρ x).i<m/\lo<=(ρ x).i)->∃o∈c.outs,∃ρ',dj (c.ks.length+1) ρ ρ'/\(∀x,c.ks.length+1+o.k<=x->ρ' x=SV.z)/\(∀S,u g (aT ρ c.args) S=O (ev ρ' o.res,S,W))/\∀f∈o.post,cL tb ρ' f
structure XH (P:aA) (gl:bH) (pol:pz) (bset:uk) (base:fi) (C:fS) (M:U):Prop where
 tb:kh C.tb
 st:zw P C
 fn:∀g F,C.fn g=some F->lz P (pol g) g=some F/\bset g=false
 ok:∀g,C.ok g=true->ly P g=true/\(g=237->bset g=true)
 ct:∀f g c,C.ct f g=some c->dA (vω P pol gl bset base) C.tb g c (match C.self with|some (f0,_,lo)=>(match Nat.beq f0 g with|true=>some (M,lo)|false=>none)|none=>none)
def D3(C:fS)(M:U)(ρ:bC)(K:XK):Prop:=∀u a c,C.self=O (u,a,c)->a<K.nx/\(ρ a).i=M
def EH{ρ ρ':bC}{K K':XK}(h:D3 C M ρ K)(y:dj K.nx ρ ρ')(u:K.nx<=K'.nx):D3 C M ρ' K':=λ A a c e=>by obtain⟨h1,h2⟩:=h A a c e;exact⟨eU h1 u,(y a h1)▸h2⟩
theorem aiW:∀{ks:bG} {E:cX},zJ ks E=V->∀(i:R) (o:kt),ks[i]? =O 0->E[i]? =O o->o=X\/∃k y d,o=O (.int k y d)
 |[],E,h,i,o,D,_=>by simp at D
 |k::ks,[],h,i,o,_,A=>by simp at A
 |k::ks,e::E,h,i,o,D,A=>by
  have u:zJ ks E=V/\(k=0->e=X\/∃k y d,e=O (.int k y d)):=by
   cases k
   .cases e;.grind[zJ]
    rename_i v;cases v<;>first|(simp[zJ]at h;done)|grind[zJ]
   rename_i k;exact⟨by simpa[zJ]using h,nofun⟩
  cases i;.grind
  rename_i i;exact aiW u.1 i o D A
theorem akq(J:cS K)(hk:bV C.tb ρ K){E:cX}(hE:gV K.nx E){o:FB}{ρ':bC}(c1:∀x,x<E.length->ft ρ E x=ρ' x)(c2:∀x,E.length+o.k<=x->ρ' x=SV.z)(c4:∀f∈o.post,cL C.tb ρ' f)(hs:lH K.nx s):
 ∃ρ2,dj K.nx ρ ρ2/\bV C.tb ρ2 (AI s K (eQ E K.nx).1 (eQ E K.nx).2 o).k/\
  (K.nx<=(AI s K (eQ E K.nx).1 (eQ E K.nx).2 o).k.nx/\cS (AI s K (eQ E K.nx).1 (eQ E K.nx).2 o).k/\bD (AI s K (eQ E K.nx).1 (eQ E K.nx).2 o).k.nx (AI s K (eQ E K.nx).1 (eQ E K.nx).2 o).v/\lH (AI s K (eQ E K.nx).1 (eQ E K.nx).2 o).k.nx (AI s K (eQ E K.nx).1 (eQ E K.nx).2 o).s)/\
  ev ρ2 (AI s K (eQ E K.nx).1 (eQ E K.nx).2 o).v=ev ρ' o.res:=by
 obtain⟨M,s1,Z,Y,s4⟩:=TI (ρ:=ρ) J.z (gV.mem hE)
 let u:=(eQ E K.nx).2
 let mid:=(List.range o.k).map λ j=>ρ' (E.length+j)
 let ρ2:=more M u mid
 have D:dj u M ρ2:=acx;have S:=s1.trans D Z;have P:=Ql J.z S hk.z;have N:iS (u+o.k) _:=iS.append (Y.mono (ad6 _ _)) (Tv _ _)
 have F:pull ρ2 ((eQ E K.nx).1++fG o.k u)=ρ':=by
  rw[af4,zD]
  have e1:(eQ E K.nx).1.map (ij ρ2)=E.map (mW ρ):=by
   rw[<-s4];refine mH λ e he=>?_
   have:=Y e he;cases e with
   |i y d=>show SV.mk _ _ _ _=SV.mk _ _ _ _;rw[D y this]
   |s y=>exact(D y this).symm
  have e2:(fG o.k u).map (ij ρ2)=mid:=by
   refine sI λ j=>?_
   rw[mu,TB];by_cases hj:j<o.k;.rw[aY hj];show O (if u+j<u then _ else mid.getD _ _)=_;grind
   grind
  rw[e1];funext x;rw[Wr,br];by_cases hx:x<E.length;.exact(aY hx)▸c1 x hx
  grind[aX]
 have A:K.nx<=u+o.k:=fI Z (ad6 _ _);refine⟨ρ2,S,?_,⟨by show _<=(XK.facts _ _).nx;rw[xM];exact A,NA (RS J A) λ f hf=>?_,?_,?_⟩,?_⟩
 .refine Iy (TS (hk.qI J S) _) λ f hf=>?_
  grind[Yk]
 .obtain⟨q,_,rfl⟩:=lO.1 hf;exact ZZ N (eU J.z A) q
 .show bD (XK.facts _ _).nx _;rw[xM];exact aao N (eU J.z A) _
 .show lH (XK.facts _ _).nx _;rw[xM];exact hs.mono A
 .show ev ρ2 (zh _ _)=_;rw[MU P,F]
def abw(D:bV C.tb ρ K):∀{p:B kt} {v:dB} {E u:cX},gV K.nx E->fM K.nx v->Ms K p v E=O u->nJ E u/\gV K.nx u
 |[],v,E,u,hE,y,h=>by cases h;exact⟨.rfl,hE⟩
 |none::J,v::F,E,u,hE,y,h=>abw D hE (fM.of λ w A=>y.mem (cV _ A)) h
 |some p::J,v::F,E,u,hE,y,h=>by
  unfold Ms at h;split at h;.rename_i P h1;obtain⟨N,M,_⟩:=KV D hE (y.mem dJ) h1;obtain⟨b1,b2⟩:=abw D M (fM.of λ w A=>y.mem (cV _ A)) h;exact⟨N.trans b1,b2⟩
  cases h
 |none::_,[],_,_,_,_,h=>by cases h
 |some _::_,[],_,_,_,_,h=>bk
theorem amz(J:bV C.tb ρ K){S:mL}(M:∀F∈S,∀p∈F,fM K.nx p.2):∀{l:Wc} {E y:cX},gV K.nx E->SG K S l E=O y->nJ E y/\gV K.nx y
 |[],E,y,hE,h=>by cases h;exact⟨.rfl,hE⟩
 |(d,k,p)::l,E,y,hE,h=>by
  unfold SG at h;split at h<;>try cases h
  rename_i F P;split at h<;>try cases h
  rename_i cs A;split at h<;>try cases h
  rename_i E1 h1
  have u:=by
   have D:∀{L},lk L k=O cs->∃i,(i,cs)∈L:=by
    intro L;induction L with
    |nil=>intro h;cases h
    |cons q L ih=>grind[lk]
   exact D A
  obtain⟨i,N⟩:=u;obtain⟨Z,Y,_⟩:=E7 J hE (M F (iD P) _ N) h1;obtain⟨b1,b2⟩:=amz J M Y h;exact⟨Z.trans b1,b2⟩
def Xx:∀{F G:oC},EL F G=V->dH ρ F=dH ρ G
 |[],[],_=>rfl
 |(i,v)::F,(j,w)::G,h=>by simp only[EL,bq]at h;show(i,aT ρ v)::dH ρ F=(j,aT ρ w)::dH ρ G;rw[cI h.1.1,CK h.1.2,Xx h.2]
 |[],_::_,h=>by simp[EL]at h
 |_::_,[],h=>by simp[EL]at h
def apg:∀{l r:mL},Hr l r=V->l.map (dH ρ)=r.map (dH ρ)
 |[],[],_=>rfl
 |F::l,G::r,h=>by rw[Hr,bq]at h;show dH ρ F::l.map _=dH ρ G::r.map _;rw[Xx h.1,apg h.2]
 |[],_::_,h=>by simp[Hr]at h
 |_::_,[],h=>by simp[Hr]at h
theorem aCT(ht:kh C.tb){ac:eE}{sm:Sm}{M:xh}(hx:Ro C sm s K args M=O l)(hb:cS K)(hk:bV C.tb ρ K)(ha:fM K.nx args)(N:lH K.nx s)(h:yO C.tb ρ K (Je ac ρ s g args) M):yO C.tb ρ K (Je ac ρ s g args) l:=by
 unfold Ro at hx;split at hx<;>try cases hx
 rename_i E1 h1;split at hx<;>try cases hx
 rename_i E2 h2;split at hx<;>try cases hx
 rename_i E h3;split at hx<;>try cases hx
 rename_i hc;rw[bq]at hc;obtain⟨S,ab⟩:=hc
 have ai:gV K.nx (O (.int .i64 0 0)::ef sm.ks X):=by
  intro x v hx;rcases cg.1 (iD hx)with hm|hm
  .cases hm;exact gL hb.z
  grind
 have ad:∀F∈s.cur::s.up,∀p∈F,fM K.nx p.2:=by
  intro F hF;rcases cg.1 hF with rfl|hF
  .exact Li N
  exact Mc N F hF
 obtain⟨a1,a2⟩:=abw hk ai ha h1;obtain⟨b1,b2⟩:=amz hk ad a2 h2;obtain⟨c1,c2,_⟩:=(C9 ht cF).fs hb hk b2 h3;obtain⟨r,hr,y,g1,g2,⟨g3,g4,g5,g6⟩,d,g7,g8,g9,ak⟩:=h;have Y:=iw.1 ab r hr;rw[bq,bq,Ey]at Y;obtain⟨⟨u,aa⟩,o,ho,D⟩:=Y
 have hd:d=false:=by
  rw[g9]at aa;cases d;.rfl
  cases aa
 subst hd;unfold ao3 at D;split at D<;>try cases D
 rename_i E3 ah;rw[tN]at D;obtain⟨E4,af⟩:=D
 have ae:gV r.k.nx (E++ef o.k X):=by
  intro x v hx;rcases wa.1 (iD hx)with hm|hm
  .exact(c2.mem _ hm v Q).mono g3
  grind
 obtain⟨m1,m2,m3⟩:=KV g2 ae g5 ah;obtain⟨n1,n2,n3⟩:=(C9 ht cF).fs g4 g2 m2 af;have Z:=m1.trans n1;have aj:E4.length=E.length+o.k:=by rw[<-Z.1,kQ,mw]
 obtain⟨A,ag,q1,q2,q3⟩:=akq hb hk c2 (λ x hx=>by
  have J:=eg hx;have P:=iw.1 S _ (iD J);rw[tN]at P;obtain⟨v,hv⟩:=P;rw[hv]at J;rw[iR J,iR (Z.2 x v bP)];exact R4 (c2 x v J) g1) (λ x hx=>by
  unfold ft aX;grind) (n3 E4 .rfl) N
 refine⟨_,lO.2 ⟨o,ho,Q⟩,A,ag,q1,q2,false,?_,(OE _).symm,Q,Q⟩;rw[g7,q3];unfold agU at u;rw[bq,bq]at u;have e2:dH y _=dH y s.cur:=Xx u.1.2;have e3:r.s.up.map _=s.up.map (dH y):=apg u.2;have e4:dH y s.cur=dH ρ s.cur:=fP aG.cur (N y ρ g1.symm);have e5:s.up.map _=s.up.map _:=fP aG.up (N y ρ g1.symm);have e6:dH ρ s.cur=dH A s.cur:=fP aG.cur (N ρ A ag);have e7:s.up.map _=s.up.map _:=fP aG.up (N ρ A ag);show O (_,dH y _::r.s.up.map _,false)=O (_,dH A s.cur::s.up.map _,false);grind
def at1(y:kh tb0){A K:XK}(u:bV tb0 ρ K)(F:cS K):SA tb0 A K=false:=by
 cases h:SA tb0 A K;.rfl
 unfold SA at h;rw[rP]at h;rcases h with h|h
 .obtain⟨f,D,h⟩:=Ey.1 h;have h1:=abL (by rw[u.z];rfl) u.ls h;have h2:=u.ls _ (UJ D);omega
 rw[bq]at h;exact absurd (F9 y u F (f:=.pr _ []) (nofun) h.2) (y.2.2.2.ff _)
def awO(u:kh tb0){K:XK}{a:AH}:∀{l:xh},a∈l->bV tb0 ρ a.k->cS a.k->a∈aoq tb0 K l
 |[_],h,_,_=>h
 |_::_::_,h,y,A=>He.2 ⟨h,by rw[at1 u y A];rfl⟩
theorem aGT(H:XH P gl pol bset base C M){f:R}(ac:C.ct f g=O ct)(hx:Ug C s K g ct args=O l)(hb:cS K)(J:bV C.tb ρ K)(ab:D3 C M ρ K)(ha:fM K.nx args)(hs:lH K.nx s):
 yO C.tb ρ K (Je (vω P pol gl bset base) ρ s g args) l:=by
 unfold Ug at hx;split at hx<;>try cases hx
 rename_i E1 h1;split at hx<;>try cases hx
 rename_i E h2;split at hx<;>cases hx;rename_i hc;rw[bq]at hc;obtain⟨Y,u⟩:=hc
 have ad:gV K.nx (O (.int .i64 0 0)::ef ct.ks.length X):=by
  intro x v hx;rcases cg.1 (iD hx)with hm|hm
  .cases hm;exact gL hb.z
  grind
 obtain⟨a1,a2,a3⟩:=alV J ad ha h1;obtain⟨b1,b2,b3⟩:=(C9 H.tb cF).fs hb J a2 h2;have S:=a1.trans b1;have A:E.length=ct.ks.length+1:=by rw[<-S.1,rO,mw]
 have F:SU ct.ks (ft ρ E):=by
  intro i hi;have ae:=wj hi;have he:=eg (aa:i+1<E.length);rcases aiW Y i _ hi (bP:(E.drop 1)[i]? =O E[i+1])with h|⟨k,y,d,h⟩
  .have:ft ρ E (i+1)=SV.z:=by unfold ft aX;rw[UO,mu,he,h];rfl
   rw[this];rfl
  rw[h]at he;rw[iR he];rfl
 obtain⟨o,ho,ρ',c1,c2,c3,c4⟩:=H.ct f g ct ac _ ((iR (S.2 0 _ Q))▸(by show SV.mk _ _ _ _=_;rw[J.z];rfl)) F (b3 E .rfl) (λ m lo hm=>by
  unfold amt at u;cases D:C.self;.rw[D]at hm;cases hm
  rename_i q;obtain⟨f0⟩:=q;rw[D]at hm u;simp only at hm u;cases Z:gr f0 g;.rw[Z]at hm;cases hm
  rw[Z]at hm u;simp at u;cases hd:ct.dec;.rw[hd]at u;cases u
  rename_i p;rw[hd]at u;simp at u;split at u<;>try cases u
  rename_i y d hy;rw[bq]at u;have e1:=zP (ρ:=ρ) hy nJ.rfl;have e2:=eP J u.1;have e3:=eP J u.2;have hM:=(ab _ _ _ D).2;have h0:(ρ 0).i=0:=by rw[J.z];rfl
  grind[cM])
 obtain⟨N,ag,q1,q2,q3⟩:=akq hb J b2 (λ x hx=>c1 x (A▸hx)) (λ x hx=>c2 x (A▸hx)) c4 hs;refine⟨_,awO H.tb (lO.2 ⟨o,ho,Q⟩) q1 q2.2.1,N,ag,q1,q2,?_⟩;refine⟨W,?_,(OE _).symm,Q,Q⟩;have:=c3 ((bX ρ s).cur::(bX ρ s).up);rw[a3 E b1]at this;rw[this,q3,hs ρ N ag];rfl
def aiI{l:dB}(h:fM n l)(i:R):lD n (DL i l):=λ ρ ρ' u=>by rw[<-Ip,<-Ip,h ρ ρ' u]
theorem Vb(y:lH n s)(A:lD n T){rs:zm}{l:dB}(h:vX s T rs=O l):bD n (xL l):=λ ρ ρ' u=>by have e1:=J6 (ρ:=ρ) s T rs h;rw[y ρ ρ' u,A ρ ρ' u,J6 s T rs h]at e1;grind[Ls]
def aJ7(hx:Qg s K g args=O l)(D:cS K)(A:bV C.tb ρ K)(F:lH K.nx s)(M:g=237->bset g=true):
 yO C.tb ρ K (Je (vω P pol gl bset base) ρ s g args) l:=by
 unfold Qg at hx;split at hx<;>try cases hx
 rename_i a d k u;have u:=cI u;split at hx<;>try cases hx
 rename_i cs y;split at hx<;>cases hx;rename_i o J N;refine⟨_,cJ.2 Q,ρ,.rfl,A,⟨aZ _,D,gL D.z,F⟩,W,?_,(OE _).symm,Q,Q⟩;refine Lp.2 ⟨1,?_⟩;subst u;have S:aT ρ [.agg a,.ptr d k 0]=[.agg _,.ptr d k 0]:=rfl;have e1:jW ((bX ρ s).cur::(bX ρ s).up) d k=O (aT ρ cs):=by have:=Ra (ρ:=ρ) d k (s.cur::s.up);rw[y]at this;exact this
 have e2:(aT ρ cs)[8]? =O (.sl [] o):=by rw[gq,mu,N];rfl
 have e3:GZ 237 (aT ρ [.agg a,.ptr d k 0]) ((bX ρ s).cur::(bX ρ s).up)=O (.sc (.int .i64 0)):=by show(match jW _ d k with|some cs=>(match gr _ 38,cs[8]?with|true,O (ak.sl [] _)=>O _|_,_=>X)|none=>X)=_;rw[e1];simp[e2,(show gr (aT ρ cs).length 38=true by rw[gq,br];exact J)]
 have e4:(aT ρ [.agg a,.ptr d k 0]).any ak.open=true:=by rw[S];simp[ak.open]
 unfold rC;rw[M Q,e4,e3];show _=O (ak.sc _,_,_);rw[(show(ρ 0).i=0 by rw[A.z];rfl)];rfl
theorem akd{M:U}(H:XH P gl pol bset base C M):∀(m:R) {f n p:R} {c:CC} {a:XA} {r:zy} {ρ:bC},uA C m f n p c a=O r->uG C.tb ρ a->D3 C M ρ a.k->
 EG C.tb ρ a.k (Lq P gl (vω P pol gl bset base) n c (dw ρ a.T) (bX ρ a.s)) r
 |0,f,n,p,c,a,r,ρ,h,N,aa=>by unfold uA at h;cases h
 |m+1,f,n,p,c,a,r,ρ,h,N,aa=>by
  have IH:=@akd M H m;unfold uA at h
  have ar:F2 P C (vω P pol gl bset base) (D3 C M) (λ g args s K=>
   if C.ok g then
    match C.ct f g with
    |some ct=>Ug C s K g ct args
    |none=>match C.fn g with
     |some F=>
      let op:=args.any XV.open
      let up:=cond op (s.cur::s.up) []
      match uA C m g (args.length+(F.n-args.length)) 0 F.c ⟨DL 0 args,{w:=W,cur:=[],up:=up},K⟩with
      |some outs=>(match qn (EY s op F.r) outs with
       |some ai=>(match C.sm f g with|some sm=>Ro C sm s K args ai|none=>O ai)
       |none=>X)
      |none=>X
     |none=>Qg s K g args
   else X):=by
   intro g args s K l ρ hx hb hk aa ha hs;simp only at hx;split at hx<;>try cases hx
   rename_i av;refine⟨(H.ok g av).1,?_⟩;split at hx;.grind[aGT]
   split at hx
   .rename_i F hF;obtain⟨aw,am⟩:=H.fn g F hF;split at hx
    .rename_i outs J
     have an:∀{l:xh},qn (EY s (args.any XV.open) F.r) outs=O l->yO C.tb ρ K (Je (vω P pol gl bset base) ρ s g args) l:=by
      intro l hx
      have aq:uG C.tb ρ ⟨DL 0 args,{w:=W,cur:=[],up:=cond (args.any XV.open) (s.cur::s.up) []},K⟩:=by
       refine⟨hb,hk,aiI ha 0,λ ρ ρ' q=>?_⟩;show aG.mk W [] _=aG.mk W [] _;cases args.any XV.open;.rfl
       have e1:dH ρ s.cur=dH ρ' s.cur:=fP aG.cur (hs ρ ρ' q);have e2:s.up.map (dH ρ)=s.up.map (dH ρ'):=fP aG.up (hs ρ ρ' q);grind
      obtain⟨o,ho,u,g1,g2,g3,g4⟩:=IH J aq aa;obtain⟨x,Z,D⟩:=vO hx o ho;have eo:(aT ρ args).any ak.open=args.any XV.open:=by grind[gq,any_map,VC]
      unfold EY at Z;have aD:∀j,o.1≠.exit j:=by grind
      have aB:∀rs,vX o.2.s o.2.T F.r=O rs->yQ F.r (O (o.1,dw u o.2.T,bX u o.2.s))=O (ev u (xL rs),(bX u o.2.s).up,o.2.s.w):=by
       intro rs ab;have e1:=J6 (ρ:=u) o.2.s o.2.T F.r ab;cases aC:o.1 with
       |exit j=>exact(aD j aC).elim
       |normal=>show(match oV (bX u o.2.s) (dw u o.2.T) F.r with|some l=>O (rQ l,(bX u o.2.s).up,(bX u o.2.s).w)|none=>X)=_;rw[e1];simp only[Ls];rfl
       |ret=>show(match oV (bX u o.2.s) (dw u o.2.T) F.r with|some l=>O (rQ l,(bX u o.2.s).up,(bX u o.2.s).w)|none=>X)=_;rw[e1];simp only[Ls];rfl
      have Z:(match vX o.2.s o.2.T F.r with
       |some l=>(match args.any XV.open with
        |true=>match o.2.s.up with
         |F::S=>O [(⟨xL l,[],{w:=s.w||o.2.s.w,cur:=F,up:=S},.eO (rY o.2.s.w),o.2.k⟩:AH)]
         |[]=>X
        |false=>O [⟨xL l,[],s,.eO .clean,o.2.k⟩])
       |none=>X)=O x:=by
       grind
      cases ab:vX o.2.s o.2.T F.r;.rw[ab]at Z;cases Z
      rename_i rs;rw[ab]at Z;have k1:=aB rs ab;cases af:args.any XV.open
      .rw[af]at Z;cases Z;have ad:jd P gl (vω P pol gl bset base) F (aT ρ args) []=O (ev u (xL rs),(bX u o.2.s).up,o.2.s.w):=by unfold jd;rw[BQ,Ip,<-k1,<-g4];rw[af];rfl
       refine⟨_,D _ (cJ.2 Q),u,g1,g3.k,⟨g2,g3.b,Vb g3.s g3.T ab,hs.mono g2⟩,W,?_,(OE _).symm,Q,Q⟩;rw[uY aw am (by rw[eo];exact af) ad];rw[hs ρ u g1]
      rw[af]at Z;simp only at Z;cases aj:o.2.s.up;.rw[aj]at Z;cases Z
      rename_i F0 S0;rw[aj]at Z;cases Z;have ad:jd P gl (vω P pol gl bset base) F (aT ρ args) ((bX ρ s).cur::(bX ρ s).up)=O (ev u (xL rs),(bX u o.2.s).up,o.2.s.w):=by unfold jd;rw[BQ,Ip,<-k1,<-g4];grind[bX,dH]
      have au:=Lm (pol:=pol) (bset:=bset) (base:=base) aw am (by rw[eo];exact af) ad;refine⟨_,D _ (cJ.2 Q),u,g1,g3.k,⟨g2,g3.b,Vb g3.s g3.T ab,?_⟩,o.2.s.w,?_,Q,Q,Q⟩;.intro ρ ρ' q;have e2:o.2.s.up.map (dH ρ)=o.2.s.up.map (dH ρ'):=fP aG.up (g3.s ρ ρ' q);rw[aj]at e2;injection e2 with e4 e5;show aG.mk _ (dH ρ F0) (S0.map (dH ρ))=aG.mk _ (dH ρ' F0) (S0.map (dH ρ'));rw[e4,e5]
      rw[au];show O (_,o.2.s.up.map (dH u),_)=O (_,dH u F0::S0.map (dH u),_);rw[aj];rfl
     split at hx
     .rename_i ai ah;split at hx;.exact aCT H.tb hx hb hk ha hs (an ah)
      cases hx;exact an ah
     cases hx
    cases hx
   exact aJ7 hx hb hk hs (H.ok g av).2
  cases c with
  |skip=>
   cases h;exact⟨_,cJ.2 Q,ρ,.rfl,aZ _,N,aiy⟩
  |exit id=>
   cases h;exact⟨_,cJ.2 Q,ρ,.rfl,aZ _,N,anB⟩
  |ret=>
   cases h;exact⟨_,cJ.2 Q,ρ,.rfl,aZ _,N,akG⟩
  |wb ks l out=>
   simp only at h;split at h
   .rename_i T1 s1 hz;have ae:∀ρ:bC,uX ks (dw ρ a.T) (bX ρ a.s)=O (dw ρ T1,bX ρ s1):=λ ρ=>by rw[afQ,hz];rfl
    have az:lD a.k.nx T1/\lH a.k.nx s1:=by
     refine⟨λ A u ag=>?_,λ A u ag=>?_⟩;.have q:=ae A;rw[N.T A u ag,N.s A u ag,ae u]at q;simp only[AW,Prod.mk.injEq]at q;exact q.1.symm
     have q:=ae A;rw[N.T A u ag,N.s A u ag,ae u]at q;simp only[AW,Prod.mk.injEq]at q;exact q.2.symm
    have al:uG C.tb ρ ⟨T1,s1,a.k⟩:=⟨N.b,N.k,az.1,az.2⟩;split at h;.rename_i r' hr;cases h;obtain⟨b,hb,ρ',h1,h2,Y,h4⟩:=P5 (gl:=gl) (n:=n) H.tb H.st ar EH al aa hr;obtain⟨t1,t2⟩:=Js Y.T Y.s out;refine⟨_,lO.2 ⟨b,hb,Q⟩,ρ',h1,h2,⟨Y.b,Y.k,t1,t2⟩,?_⟩;show cO P gl _ n (.wb ks l out) (dw ρ a.T) (bX ρ a.s)=_;rw[ahw,ae ρ];show L0 out (pF P gl _ n l (dw ρ T1) (bX ρ s1))=_;rw[h4];show O (oP.normal,qX out (dw ρ' b.T) (bX ρ' b.s))=_;rw[CY]
    cases h
   cases h
  |bh l out=>
   simp only at h;split at h;.rename_i r' hr;cases h;obtain⟨b,hb,ρ',h1,h2,Y,h4⟩:=P5 (gl:=gl) (n:=n) H.tb H.st ar EH N aa hr;obtain⟨t1,t2⟩:=Js Y.T Y.s out;refine⟨_,lO.2 ⟨b,hb,Q⟩,ρ',h1,h2,⟨Y.b,Y.k,t1,t2⟩,?_⟩;show cO P gl _ n (.bh l out) (dw ρ a.T) (bX ρ a.s)=_;rw[alY,h4];show O (oP.normal,qX out (dw ρ' b.T) (bX ρ' b.s))=_;rw[CY]
   cases h
  |xQ l bef out=>
   simp only at h;split at h;.rename_i r' hr;cases h;obtain⟨b,hb,ρ',h1,h2,Y,h4⟩:=awm (gl:=gl) (n:=n) H.tb H.st ar EH N aa hr;obtain⟨t1,t2⟩:=Js Y.T Y.s out;refine⟨_,lO.2 ⟨b,hb,Q⟩,ρ',h1,h2,⟨Y.b,Y.k,t1,t2⟩,?_⟩;show cO P gl _ n (.xQ l bef out) (dw ρ a.T) (bX ρ a.s)=_;rw[acv,h4];show O (oP.normal,qX out (dw ρ' b.T) (bX ρ' b.s))=_;rw[CY]
   cases h
  |seq x y=>
   simp only at h;split at h
   .rename_i outs J;obtain⟨o,ho,A,h1,h2,Y,h4⟩:=IH J N aa;obtain⟨z,hz,D⟩:=vO h o ho;obtain⟨oe,oa⟩:=o;cases oe with
    |normal=>
     obtain⟨q,hq,u,k1,k2,k3,k4⟩:=IH hz Y (EH aa h1 h2);refine⟨q,D q hq,u,h1.trans k1 h2,fI h2 k2,k3,?_⟩;show cO P gl _ n (.seq x y) _ _=_;rw[Fk,h4];exact k4
    |exit j=>
     cases hz;refine⟨_,D _ (cJ.2 Q),A,h1,h2,Y,?_⟩;show cO P gl _ n (.seq x y) _ _=_;rw[Fk,h4];rfl
    |ret=>
     cases hz;refine⟨_,D _ (cJ.2 Q),A,h1,h2,Y,?_⟩;show cO P gl _ n (.seq x y) _ _=_;rw[Fk,h4];rfl
   cases h
  |cond x y z=>
   simp only at h;split at h
   .rename_i v hv;split at h
    .rename_i bs am;obtain⟨b0,e0,h1,g,ay,A,h2,Y,h4⟩:=ahe N.b N.k (kL N.b.z N.T hv) am;obtain⟨w,hw,D⟩:=vO h g ay;have h4:g.1=b0:=h4;obtain⟨g1,g2,_⟩:=h1 g ay;have eT:dw ρ a.T=dw A a.T:=N.T ρ A h2;have eS:bX ρ a.s=bX A a.s:=N.s ρ A h2;have al:uG C.tb A {a with k:=g.2}:=⟨g2,Y,N.T.mono g1,N.s.mono g1⟩;have ao:D3 C M A g.2:=EH aa h2 g1;split at hw;.rename_i ap;rw[ap]at h4;subst h4;obtain⟨q,hq,u,k1,k2,k3,k4⟩:=IH hw al ao;refine⟨q,D q hq,u,h2.trans k1 g1,fI g1 k2,k3,?_⟩;show cO P gl _ n (.cond x y z) _ _=_;rw[Yd,jz N.k.z hv,e0,eT,eS];exact k4
     rename_i ap;rw[ap]at h4;subst h4;obtain⟨q,hq,u,k1,k2,k3,k4⟩:=IH hw al ao;refine⟨q,D q hq,u,h2.trans k1 g1,fI g1 k2,k3,?_⟩;show cO P gl _ n (.cond x y z) _ _=_;rw[Yd,jz N.k.z hv,e0,eT,eS];exact k4
    cases h
   cases h
  |block id x=>
   simp only at h;split at h
   .rename_i outs J;cases h;obtain⟨o,ho,A,h1,h2,Y,h4⟩:=IH J N aa;obtain⟨oe,oa⟩:=o;cases oe with
    |normal=>
     refine⟨_,lO.2 ⟨_,ho,Q⟩,A,h1,h2,Y,?_⟩;show cO P gl _ n (.block id x) _ _=_;rw[Si,h4];rfl
    |exit j=>
     refine⟨_,lO.2 ⟨_,ho,Q⟩,A,h1,h2,Y,?_⟩;grind[Si,ajw]
    |ret=>
     refine⟨_,lO.2 ⟨_,ho,Q⟩,A,h1,h2,Y,?_⟩;show cO P gl _ n (.block id x) _ _=_;rw[Si,h4];rfl
   cases h
  |loop hd x=>
   simp only at h;split at h;.rename_i I hI;refine aDO (Inva:=λ ρ=>D3 C M ρ a.k) H.tb (λ ρ ρ' ha hi=>EH hi ha (aZ _)) (λ {a'} {r'} {ρ'} aH aF ax aE=>?_) N aa h;exact IH aH aF λ f0 a2 c e=>⟨eU (ax f0 a2 c e).1 aE,(ax f0 a2 c e).2⟩
   split at h
   .rename_i outs J;obtain⟨t1,t2⟩:=Js N.T N.s hd;obtain⟨o,ho,A,h1,h2,Y,h4⟩:=IH J ⟨N.b,N.k,t1,t2⟩ aa;obtain⟨z,hz,D⟩:=vO h o ho;obtain⟨oe,oa⟩:=o;have ac:cO P gl (vω P pol gl bset base) n (.loop hd x) (dw ρ a.T) (bX ρ a.s)=wO (cO P gl (vω P pol gl bset base) n (.loop hd x)) (O (oe,dw A oa.T,bX A oa.s)):=by rw[rn,CY,h4]
    cases oe with
    |normal=>
     obtain⟨q,hq,u,k1,k2,k3,k4⟩:=IH hz Y (EH aa h1 h2);refine⟨q,D q hq,u,h1.trans k1 h2,fI h2 k2,k3,?_⟩;show cO P gl _ n (.loop hd x) _ _=_;rw[ac];exact k4
    |exit j=>
     cases hz;refine⟨_,D _ (cJ.2 Q),A,h1,h2,Y,?_⟩;show cO P gl _ n (.loop hd x) _ _=_;rw[ac];rfl
    |ret=>
     cases hz;refine⟨_,D _ (cJ.2 Q),A,h1,h2,Y,?_⟩;show cO P gl _ n (.loop hd x) _ _=_;rw[ac];rfl
   cases h
end
section
variable{F:lU}
variable{ρ ρ':bC}{C:fS}{P:aA}{gl:bH}{n:R}{pol:pz}{bset:uk}{base:fi}
mutual
theorem aBS:∀{v:XV},bdX n v=V->bD n v
 |.sc _,_=>ua
 |.int k x c,h=>gL (ph h)
 |.bs x,h=>Hv (ph h)
 |.ss x,h=>Qf (ph h)
 |.sl x o,h=>tZ (ph h)
 |.sx es o,h=>λ ρ ρ' ha=>by show ak.sl (fH ρ es) o=.sl (fH ρ' es) o;rw[anp h ρ ρ' ha]
 |.ptr _ _ _,_=>λ _ _ _=>rfl
 |.rp cs o,h=>Kw (Em h)
 |.ms _ _ _ _,_=>λ _ _ _=>rfl
 |.fn f cs,h=>afB (Em h)
 |.agg cs,h=>PT (Em h)
 |.bp cs,h=>aFB (Em h)
 |.un,_=>λ _ _ _=>rfl
theorem Em:∀{v:B XV},Ao n v=V->fM n v
 |[],_=>λ _ _ _=>rfl
 |v::l,h=>λ ρ ρ' ha=>by simp only[Ao,bq]at h;show ev ρ v::aT ρ l=ev ρ' v::aT ρ' l;rw[aBS h.1 ρ ρ' ha,Em h.2 ρ ρ' ha]
theorem anp:∀{v:B (B XV)},Q4 n v=V->∀ρ ρ':bC,dj n ρ ρ'->fH ρ v=fH ρ' v
 |[],_=>λ _ _ _=>rfl
 |v::l,h=>λ ρ ρ' ha=>by simp only[Q4,bq]at h;show aT ρ v::fH ρ l=aT ρ' v::fH ρ' l;rw[Em h.1 ρ ρ' ha,anp h.2 ρ ρ' ha]
end
def ars{f:ik}(h:Gx n f=V):f.bd n:=by
 cases f with
 |le a b c=>rw[Gx,bq]at h;exact⟨ph h.1,ph h.2⟩
 |sl x m c nm bs=>
  simp only[Gx,bq,iw]at h;exact⟨ph h.1.1,ph h.1.2,λ p u=>ph (h.2 p u)⟩
 |str x s=>exact ph h
 |bb x b=>exact ph h
 |el x i c cells=>simp only[Gx,bq]at h;exact⟨ph h.1.1,ph h.1.2,Em h.2⟩
 |sum z a b c=>simp only[Gx,bq]at h;exact⟨ph h.1.1,ph h.1.2,ph h.2⟩
 |pr k l=>
  rw[Gx,iw]at h;intro e y;have:=h e y;cases e<;>exact ph this
def afz:∀(ks:bG) (i j:R),(ve i ks)[j]? =match ks[j]?with|O b=>O (O (match b with|0=>.int .i64 (i+j) 0|1=>.sl (i+j) X|2=>.bs (i+j)|_=>.ss (i+j)))|X=>X
 |[],i,j=>by simp[ve]
 |b::ks,i,0=>rfl
 |b::ks,i,j+1=>by
  show(ve _ ks)[j]? =match ks[j]?with|O b=>O _|X=>X
  rw[afz ks _ j,(aa:i+1+j=i+(j+1))]
def QO:∀(ks:bG) (i:R),(ve i ks).length=ks.length
 |[],i=>rfl
 |b::ks,i=>by show(ve _ ks).length+1=_;rw[QO ks _];rfl
def agQ{f:R}{sf:acw}(H:XH P gl pol bset base {C with self:=sf} M)(hm:lz P (pol f) f=O F)(hb:bset f=false)(N:QP ct=V){outs:zy}{rs:xh}
 (ho:uA {C with self:=sf} m f (ct.args.length+(F.n-ct.args.length)) 0 F.c ⟨DL 0 ct.args,{w:=false,cur:=[],up:=[]},HT ct⟩=O outs)
 (hr:qn (EY {w:=false,cur:=[],up:=[]} false F.r) outs=O rs) (aj:rs.all (λ r=>ct.outs.any (XP {C with self:=sf} ct.ks r.v r.k))=V)
 (h0:ρ 0=SV.z) (hn:SU ct.ks ρ) (ag:∀f∈ct.pre,cL C.tb ρ f) (am:D3 {C with self:=sf} M ρ (HT ct)):
 ∃o∈ct.outs,∃ρ',dj (ct.ks.length+1) ρ ρ'/\(∀x,ct.ks.length+1+o.k<=x->ρ' x=SV.z)/\(∀S,vω P pol gl bset base f (aT ρ ct.args) S=O (ev ρ' o.res,S,false))/\∀f∈o.post,cL C.tb ρ' f:=by
 unfold QP at N;rw[bq,bq,bq]at N;obtain⟨⟨⟨w1,w2⟩,w3⟩⟩:=N;have Z:(HT ct).nx=ct.ks.length+1:=xM;have ae:cS ({ls:=[],fs:=[],nx:=ct.ks.length+1}):=⟨AZ _,λ f hf=>bk,λ f hf=>bk⟩;obtain⟨o,an,u,g1,g2,g3,g4⟩:=akd H m ho ⟨(NA ae λ f hf=>ars (iw.1 w2 f hf)),(Iy ⟨h0,λ f hf=>bk,λ f hf=>bk⟩ ag),aiI (Z▸Em w1) 0,λ _ _ _=>rfl⟩ am;obtain⟨x,hx,af⟩:=vO hr o an;rw[Z]at g1;rw[Z]at g2;unfold EY at hx;have ah:∀j,o.1≠.exit j:=by intro j hj;rw[hj]at hx;cases hx
 have hx:(match vX o.2.s o.2.T F.r with
  |some l=>O [⟨xL l,[],{w:=false,cur:=[],up:=[]},.eO .clean,o.2.k⟩]
  |none=>X)=O x:=by
  cases A:o.1 with
  |exit j=>exact(ah j A).elim
  |normal=>rw[A]at hx;exact hx
  |ret=>rw[A]at hx;exact hx
 cases D:vX _ _ _;.rw[D]at hx;cases hx
 .rename_i l;rw[D]at hx;cases hx
  have ai:yQ F.r (O (o.1,dw u o.2.T,bX u o.2.s))=O (ev u (xL l),(bX u o.2.s).up,o.2.s.w):=by
   have e1:=J6 (ρ:=u) _ _ _ D;cases A:o.1 with
   |exit j=>exact(ah j A).elim
   |normal=>show(match oV _ _ _ with|some l=>O _|none=>X)=_;rw[e1];simp[Ls];rfl
   |ret=>show(match oV _ _ _ with|some l=>O _|none=>X)=_;rw[e1];simp[Ls];rfl
  have ad:jd P gl (vω P pol gl bset base) F (aT ρ ct.args) []=O (ev u (xL l),(bX u o.2.s).up,o.2.s.w):=by unfold jd;rw[BQ,Ip,<-ai,<-g4];rfl
  have Y:(aT ρ ct.args).any ak.open=false:=by
   rw[gq,any_map (λ a=>VC a)];cases h:ct.args.any _;.rfl
   rw[h]at w3;cases w3
  have K:=iw.1 aj _ (af _ (cJ.2 Q));rw[Ey]at K;obtain⟨co,ao,y⟩:=K;unfold XP at y;split at y<;>try cases y
  rename_i E hE;rw[tN]at y;obtain⟨E',aq⟩:=y
  have J:∀(j),j<ct.ks.length->∃v,(O (XV.int .i64 0 0)::ve 1 ct.ks++ef co.k X)[j+1]? =O (O v)/\bD (ct.ks.length+1) v/\mW u (O v)=ρ (j+1):=by
   intro j hj;have ac:=eg hj;have e1:(O (XV.int .i64 0 0)::ve 1 ct.ks++ef co.k X)[j+1]? =(ve 1 ct.ks)[j]? :=by show((ve 1 _)++ef _ X)[j]? =_;rw[AV (by rw[QO];exact hj)]
   rw[e1,afz,ac];refine⟨_,Q,?_,?_⟩
   .split;.exact gL aa
    .exact tZ aa
    .exact Hv aa
    exact Qf aa
   have ej:u (1+j)=ρ (j+1):=(UF 1 j)▸(g1 _ aa).symm;split;.rename_i ae;rw[ae]at ac;show SV.mk _ _ _ _=_;rw[ej,fJ,<-hn j ac]
   .exact ej
   .exact ej
   exact ej
  have ap:gV o.2.k.nx (O (XV.int .i64 0 0)::ve 1 ct.ks++ef co.k X):=by
   intro x v hx;cases x;.cases hx;exact gL g3.b.z
   rename_i x;by_cases al:x<ct.ks.length;.obtain⟨w,h1,h2,_⟩:=J x al;rw[h1]at hx;cases hx;exact h2.mono g2
   have:(ef co.k X)[x-(ve 1 ct.ks).length]? =O (O v):=by rw[<-uH (by rw[QO];omega)];exact hx
   cases UR (iD this)
  obtain⟨a1,a2,a3⟩:=KV g3.k ap (Vb g3.s g3.T D) hE;obtain⟨b1,b2,b3⟩:=(C9 H.tb cF).fs g3.b g3.k a2 aq;have ab:=a1.trans b1;have ar:E'.length=ct.ks.length+1+co.k:=by rw[<-ab.1];show((ve 1 _)++ef _ X).length+1=_;rw[kQ,QO,mw];omega
  refine⟨co,ao,ft u E',λ x hx=>?_,λ x hx=>?_,λ S=>?_,b3 E' .rfl⟩
  .cases x;.rw[iR (ab.2 0 _ Q),h0];show _=SV.mk _ _ _ _;rw[g3.k.z];rfl
   rename_i x;obtain⟨w,h1,_,h3⟩:=J x aa;exact(iR (ab.2 _ _ h1))▸h3.symm
  .unfold ft aX;rw[UO,zC FZ];rfl
  rw[uY hm hb Y ad,a3 E' b1]
def dA.ot{u:eE}{tb:iP}{c:Ct}{mo:gw (U×U)}(h:dA u tb g c X):dA u tb g c mo:=λ ρ h0 A y _=>h ρ h0 A y nofun
def Mo{f:R}(ab:kh C.tb)(ac:zw P C)(af:∀g F,C.fn g=O F->lz P (pol g) g=O F/\bset g=W)(ae:∀g,C.ok g=V->ly P g=V/\(g=237->bset g=V))
 (ag:∀f' g c,C.ct f' g=O c->dA (vω P pol gl bset base) C.tb g c none\/(g=f/\c=ct/\ct.dec.isSome=V))
 (hm:lz P (pol f) f=O F) (hb:bset f=W) (D:keeps C m f F ct=V):dA (vω P pol gl bset base) C.tb f ct none:=by
 unfold keeps at D;rw[bq]at D;obtain⟨K,D⟩:=D;split at D<;>try cases D
 rename_i outs A;split at D<;>try cases D
 rename_i rs ad;cases S:ct.dec
 .have H:XH P gl pol bset base {C with self:=match ct.dec with|some (x,c)=>O (f,x,c)|none=>none} 0:=by
   refine⟨ab,ac,af,ae,λ f' g c hc=>?_⟩;rcases ag f' g c hc with this|this
   .exact S▸this
   rw[S]at this;exact absurd this.2.2 aw
  exact λ ρ h0 Z u _=>agQ H hm hb K A ad D h0 Z u (by intro f0 a c e;rw[S]at e;cases e)
 .rename_i p;obtain⟨x,lo⟩:=p;have J:=K;unfold QP at J;rw[S]at J;simp only[bq]at J;obtain⟨_,w5,w6⟩:=J;have y:(match ct.dec with|some (x,c)=>O (f,x,c)|none=>none)=O (f,x,lo):=by rw[S]
  have Y:∀(k) (N),(N-lo).toNat<=k->dA (vω P pol gl bset base) C.tb f ct (O (N,lo)):=by
   intro k;induction k with
   |zero=>
    intro N hN ρ h0 Z u M;obtain⟨x'⟩:=M N lo Q;omega
   |succ k ih=>
    intro N hN ρ h0 Z u M;obtain⟨x',l',e1,e2⟩:=M N lo Q;rw[S]at e1;cases e1
    have H:XH P gl pol bset base {C with self:=match ct.dec with|some (x,c)=>O (f,x,c)|none=>none} (ρ x).i:=by
     refine⟨ab,ac,af,ae,λ f' g c hc=>?_⟩;simp[y];rcases ag f' g c hc with this|this
     .exact this.ot
     obtain⟨rfl,e2,_⟩:=this;rw[e2,qi g];exact ih _ aa
    refine agQ H hm hb K A ad D h0 Z u λ f0 a c e=>?_
    rw[y]at e;cases e;exact⟨(show(HT ct).nx=ct.ks.length+1 from xM)▸ph w5,Q⟩
  intro ρ h0 Z u _;have ai:=eP (Iy ⟨h0,λ f hf=>bk,λ f hf=>bk⟩ u) w6;refine Y _ ((ρ x).i+1) (aZ _) ρ h0 Z u λ m' ah e=>?_
  cases e;refine⟨x,lo,S,aa,?_⟩;have:(ρ 0).i=0:=by rw[h0];rfl
  omega
end
section
variable{P:aA}{gl:bH}{pol:pz}{bset:uk}{base:fi}
def au3(f:R):bA->mi
 |X=>V
 |O u=>gr u f
abbrev vy:=R×bA×R×Ct
def Jo(i f g:R):B vy->gw Ct
 |[]=>X
 |p::l=>match gr p.2.2.1 g&&au3 f p.2.1 with
  |V=>(match Nat.blt p.1 i||(gr p.1 i&&p.2.2.2.dec.isSome)with|V=>O p.2.2.2|W=>X)
  |W=>Jo i f g l
def Uo{f:R}:∀{l:B vy} {c:Ct},Jo i f g l=O c->∃p∈l,p.2.2.1=g/\p.2.2.2=c/\(p.1<i\/(p.1=i/\c.dec.isSome=V))
 |[],c,h=>by cases h
 |p::l,c,h=>by
  unfold Jo at h;split at h
  .rename_i y;rw[bq]at y;split at h<;>cases h;rename_i u;refine⟨p,dJ,cI y.1,Q,?_⟩;rw[rP,bq]at u;rcases u with u|u
   .exact .inl (ph u)
   exact .inr ⟨cI u.1,u.2⟩
  obtain⟨q,A,h1⟩:=Uo h;exact⟨q,cV _ A,h1⟩
def xA{α:Type}(Qqq:α->Prop):B α->Prop
 |[]=>True
 |a::l=>Qqq a/\xA Qqq l
def xA.mem{Qqq:α->Prop}:∀{l:B α},xA Qqq l->∀a∈l,Qqq a
 |[],_,a,h=>by cases h
 |b::l,h,a,u=>by
  rcases cg.1 u with rfl|u
  .exact h.1
  exact h.2.mem a u
def I0:B vy->mi
 |[]=>V
 |p::l=>l.all (λ q=> !(gr p.1 q.1))&&I0 l
def Yq:∀{l:B vy},I0 l=V->∀p∈l,∀q∈l,p.1=q.1->p=q
 |[],_,p,u,_,_,_=>by cases u
 |a::l,h,p,u,q,y,e=>by
  unfold I0 at h;rw[bq,iw]at h;rcases cg.1 u with h1|h1<;>rcases cg.1 y with h2|h2
  .rw[h1,h2]
  .subst h1;have:=h.1 q h2;rw[e,qi]at this;cases this
  .subst h2;have:=h.1 p h1;rw[e,qi]at this;cases this
  exact Yq h.2 p h1 q h2 e
def V3(P:aA)(gl:bH)(pol:pz)(bset:uk)(base:fi)(tb:iP)(l:B vy)(p:vy):Prop:=
 dA (vω P pol gl bset base) tb p.2.2.1 p.2.2.2 X\/
 ∃(C:fS) (F:lU) (m:R),C.tb=tb/\C.ct=(λ f g=>Jo p.1 f g l)/\(zw P C)/\(∀g F,C.fn g=O F->lz P (pol g) g=O F/\bset g=W)/\(∀g,C.ok g=V->ly P g=V/\(g=237->bset g=V))/\lz P (pol p.2.2.1) p.2.2.1=O F/\bset p.2.2.1=W/\keeps C m p.2.2.1 F p.2.2.2=V
end
section
variable{α β:Type}
def ds:DP Nat:=λ s=>match dn s with
 |(0,s)=>(0,s)
 |(n,s)=>if n%2=1 then(s.m+(n+1)/2,⟨s.l,s.m+(n+1)/2,s.q⟩)else(s.m+1-n/2,s)
def dsl:DP Nat:=λ s=>match dz s with
 |(d,s)=>(((s.q:U)+1+d).toNat,⟨s.l,max s.m ((s.q:U)+1+d).toNat,((s.q:U)+1+d).toNat⟩)
def dlq:DP Nat:=λ s=>match dz s with|(d,s)=>(((s.q:U)-d).toNat,s)
def dik:DP jT:=fT (λ|1=>.u8|2=>.u64|_=>.i64) dn
def dav:DP au:=λ s=>match dn s with
 |(0,s)=>(.bool W,s)
 |(1,s)=>(.bool V,s)
 |(_,s)=>fT (λ l:bG=>.str (l.map UInt8.ofNat)) (dl dn) s
def dx:R->DP XV
 |0=>MS .un
 |n+1=>λ s=>match dn s with
  |(0,s)=>gm (fT (.int .i64) ds) dz s
  |(1,s)=>gm (gm (fT .int dik) ds) dz s
  |(2,s)=>gm (fT .sl ds) (MS X) s
  |(3,s)=>gm (fT .sl ds) (fT O dn) s
  |(4,s)=>(.sx [] X,s)
  |(5,s)=>gm (fT .sx (dl (dl (dx n)))) (YW dn) s
  |(6,s)=>fT .agg (dl (dx n)) s
  |(7,s)=>fT .bs ds s
  |(8,s)=>fT .ss ds s
  |(9,s)=>fT .sc dav s
  |(13,s)=>gm (fT .fn dn) (dl (dx n)) s
  |(14,s)=>fT .bp (dl (dx n)) s
  |(_,s)=>(.un,s)
def dse:DP SE:=λ s=>match dn s with
 |(0,s)=>fT .s dlq s
 |(_,s)=>gm (fT .i ds) dz s
def df(N:qF):DP ik:=λ s=>match dn s with
 |(0,s)=>gm (gm (fT .le ds) ds) dz s
 |(1,s)=>gm (gm (gm (gm (fT .sl dsl) ds) dz) dn) (dl (qD ds dz)) s
 |(2,s)=>gm (fT (λ k=>.pr (k+100)) dn) (dl dse) s
 |(3,s)=>fT (λ x=>.str x N) dsl s
 |(4,s)=>gm (gm (gm (fT .el dn) ds) dz) (dl (dx 9)) s
 |(5,s)=>fT (λ x=>.le 0 x 0) ds s
 |(_,s)=>gm (fT (λ x=>.le x 0) ds) dz s
def dpm(N:qF):DP Gl:=λ s=>match dn s with
 |(0,s)=>fT .f (df N) s
 |(_,s)=>gm (gm (fT .len dn) dn) dz s
def d0(f:DP α):DP α:=λ s=>f ⟨s.l,0,0⟩
def drl(N:qF):DP Mg:=d0 (gm (gm (fT .mk dn) (dl (dpm N))) (df N))
def dtd(N:qF):DP ym:=d0 (gm (gm (gm (fT .mk dn) dn) (dl (dx 9))) (dl (df N)))
def dco(N:qF)(m:R):DP FB:=λ s=>gm (gm (fT .mk dn) (dx 9)) (dl (df N)) ⟨s.l,m,s.q⟩
def dct(N:qF):DP Ct:=d0 λ s=>match gm (gm (gm (fT .mk (dl dn)) (dl (dx 9))) (dl (df N))) (YW (qD ds dz)) s with
 |(h,s)=>fT h (dl (dco N s.m)) s
def drf:DP Hg:=λ s=>match dn s with
 |(0,s)=>fT .t dn s
 |(1,s)=>fT .l dn s
 |(2,s)=>gm (fT .b dn) dn s
 |(3,s)=>gm (fT .bl dn) dn s
 |(4,s)=>fT .s dn s
 |(5,s)=>gm (fT .sb dn) dn s
 |(6,s)=>gm (gm (fT .ul dn) dn) dn s
 |(_,s)=>gm (gm (fT .us dn) dn) dn s
def div(N:qF):DP Inv:=d0 (gm (gm (gm (gm (gm (gm (fT .mk dn) (dl drf)) (dl (qD dn (dx 9)))) (dl (qD dn (dl (dx 9))))) (dl (qD dn (dl (qD dn (dl (dx 9))))))) (dl (dl (df N)))) (qD (qD dn dz) (qD dn dz)))
end
end
end Go.Abs
