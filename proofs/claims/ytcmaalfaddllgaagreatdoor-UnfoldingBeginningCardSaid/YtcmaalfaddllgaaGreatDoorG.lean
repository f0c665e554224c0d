/- The symbolic machine: its soundness. -/
import Derived.Test.YtcmaalfaddllgaaGreatDoorF
set_option linter.all false
namespace Go.Abs
noncomputable section
open Go
variable{I:Inv}{M:Int}{SI:bm->XK->Prop}{U:List (Nat×List (Nat×List XV))}{a:XA}{Z9:List (Nat×Int)}{cl:Nat->List XV->XS->XK->Option (List gP)}{cs refs:List XV}{ct:Ct}{e:pj}{g i m n nm sz:Nat}{l:List gP}{r:XV×XK}{v:XV}{α:Type}{σ:Sub}
section
variable{l:List SV}
variable{ρ ρ':bm}{C:eL}{K K':XK}
mutual
theorem QU{n:Nat}{σ:Sub}(h:fp n σ)(hn:0<n):∀v:XV,bg n (oD σ v)
 |.sc _=>vF
 |.int k x c=>eD (h.num hn x)
 |.bs x=>FL (h.sym hn x)
 |.ss x=>Nd (h.sym hn x)
 |.sl x o=>sP (h.sym hn x)
 |.sx es o=>λ ρ ρ' ha=>by show ae.sl (cL ρ (tK σ es)) o=.sl (cL ρ' (tK σ es)) o;rw[Xu h hn es ρ ρ' ha]
 |.ptr _ _ _=>λ _ _ _=>rfl
 |.rp cs off=>λ ρ ρ' ha=>by show ae.rp (aE ρ (gp σ cs)) off=.rp (aE ρ' (gp σ cs)) off;rw[vN h hn cs ρ ρ' ha]
 |.ms _ _ _ _=>λ _ _ _=>rfl
 |.fn f cs=>λ ρ ρ' ha=>by show ae.fn f (aE ρ (gp σ cs))=.fn f (aE ρ' (gp σ cs));rw[vN h hn cs ρ ρ' ha]
 |.agg cs=>λ ρ ρ' ha=>by show ae.agg (aE ρ (gp σ cs))=.agg (aE ρ' (gp σ cs));rw[vN h hn cs ρ ρ' ha]
 |.aL cs=>λ ρ ρ' ha=>by show ae.aL (aE ρ (gp σ cs))=.aL (aE ρ' (gp σ cs));rw[vN h hn cs ρ ρ' ha]
 |.un=>λ _ _ _=>rfl
theorem vN{n:Nat}{σ:Sub}(h:fp n σ)(hn:0<n):∀v:List XV,dk n (gp σ v)
 |[]=>λ _ _ _=>rfl
 |v::l=>λ ρ ρ' ha=>by show ev ρ (oD σ v)::aE ρ (gp σ l)=ev ρ' (oD σ v)::aE ρ' (gp σ l);rw[QU h hn v ρ ρ' ha,vN h hn l ρ ρ' ha]
theorem Xu{n:Nat}{σ:Sub}(h:fp n σ)(hn:0<n):∀v:List (List XV),∀ρ ρ':bm,bY n ρ ρ'->cL ρ (tK σ v)=cL ρ' (tK σ v)
 |[]=>λ _ _ _=>rfl
 |v::l=>λ ρ ρ' ha=>by show aE ρ (gp σ v)::cL ρ (tK σ l)=aE ρ' (gp σ v)::cL ρ' (tK σ l);rw[vN h hn v ρ ρ' ha,Xu h hn l ρ ρ' ha]
end
theorem Sx(h:fp n σ)(u:0<n)(f:cq):(Eb σ f).bd n:=by
 cases f with
 |le a b c=>exact⟨h.num u a,h.num u b⟩
 |sl x m c nm bs=>exact⟨h.sym u x,h.num u m,λ p A=>by obtain⟨q,_,rfl⟩:=eK.1 A;exact h.num u q.1⟩
 |str x s=>exact h.sym u x
 |bb x b=>exact h.sym u x
 |el x i c cells=>exact⟨h.sym u x,h.num u i,vN h u cells⟩
 |sum z a b c=>exact⟨h.num u z,h.num u a,h.num u b⟩
 |pr k l=>
  intro e D;obtain⟨F,_,rfl⟩:=eK.1 D;cases F with
  |i x c=>exact h.num u x
  |s x=>
   show tL n (match σ[x]?with|some e=>e|none=>.i 0 0);cases y:σ[x]?;.exact u
   rename_i e;have:=h e (jm y);cases e<;>exact this
theorem Jp:∀(m i j:Nat),(cN m i)[j]? =if j<m then some (.s (i+j))else none
 |0,i,j=>by rw[aj (by omega)];rfl
 |m+1,i,0=>by rw[ao (by omega)];rfl
 |m+1,i,j+1=>by show(cN m (i+1))[j]? =_;rw[Jp m (i+1) j];grind
def Mi:∀(m i:Nat),fp (i+m) (cN m i)
 |0,i=>λ e h=>by cases h
 |m+1,i=>fp.cons (s:=.s i) (show i<i+(m+1) by omega) ((Mi m (i+1)).mono (by omega))
theorem RN(a b:List SV)(x:Nat):aQ (a++b) x=if x<a.length then a.getD x SV.z else aQ b (x-a.length):=by grind[aQ]
def XQ{a b c:List SV}(h:aQ b=aQ c):aQ (a++b)=aQ (a++c):=by funext x;rw[RN,RN,h]
def more(ρ:bm)(n:Nat)(l:List SV):bm:=λ x=>if x<n then ρ x else l.getD (x-n) SV.z
def Vc:bY n ρ (more ρ n l):=λ x h=>by show _=if x<n then _ else _;rw[ao h]
theorem az0(q:l.length<=m):aQ ((cN m n).map (dS (more ρ n l)))=aQ l:=by
 funext x;unfold aQ;rw[pJ,bM,Jp,pJ];by_cases h:x<m;.rw[ao h];show(more ρ n l (n+x))=_;show(if n+x<n then _ else l.getD (n+x-n) SV.z)=_;grind
 grind
theorem Oz(y:cB K){i:Nat×Int}{cells:List XV}(F:∀p∈Z9,p.1<K.nx)(hi:i.1<K.nx)(h:Bg C K nm Z9 i=some (cells,K')):
 K.nx<=K'.nx/\cB K'/\dk K'.nx cells/\∃d,C.tb.td nm=some d/\cells.length=d.cells.length:=by
 unfold Bg at h;split at h
 .rename_i d D;split at h
  .rename_i L;cases h;have q:K.nx<=K.nx+(d.k-d.p- 2):=VC _ _;have u:fp (K.nx+(d.k-d.p- 2)) (.i 0 0::Z9.map (λ p=>.i p.1 p.2)++.i i.1 i.2::cN (d.k-d.p- 2) K.nx):=by have J:=y.z;refine fp.append (fp.cons (s:=.i 0 0) (show 0<_ by omega) λ e P=>?_) (fp.cons (s:=.i i.1 i.2) (show i.1<_ by omega) (Mi _ _));grind
   have A:0<K.nx+(d.k-d.p- 2):=dF y.z q;refine⟨by rw[rX];exact q,E6 (Mb y q) λ f N=>?_,by rw[rX];exact vN u A _,d,D,?_⟩;.grind[Sx]
   have:∀l:List XV,(gp (.i 0 0::Z9.map (λ p=>SE.i p.1 p.2)++.i i.1 i.2::cN (d.k-d.p- 2) K.nx) l).length=l.length:=by
    intro l;induction l with
    |nil=>rfl
    |cons v l G=>grind[gp]
   exact this _
  cases h
 .cases h
theorem PS(L:kI C.tb)(G:cB K)(F:bw C.tb ρ K){i:Nat×Int}{cells:List XV}{e:List ae}(A:∀p∈Z9,p.1<K.nx)(hi:i.1<K.nx)(h:Bg C K nm Z9 i=some (cells,K'))
 (N:dX C.tb nm (Z9.map (b8 ρ)) (b8 ρ i) e):∃ρ',bY K.nx ρ ρ'/\bw C.tb ρ' K'/\e=aE ρ' cells:=by
 unfold Bg at h;split at h
 .rename_i d S;split at h
  .rename_i D;cases h;obtain⟨_,env,Y,h2,h3,h4⟩:=(yP L S).1 N
   let rest:=env.drop (d.p+2)
   have u:rest.length<=d.k-d.p- 2:=by grind
   have q:bY K.nx ρ (more ρ K.nx rest):=Vc;have J:more ρ K.nx rest 0=SV.z:=MU G.z q F.z;have P:bw C.tb (more ρ K.nx rest) K:=F.nh G q
   have y:pull (more ρ K.nx rest) (.i 0 0::Z9.map (λ p=>.i p.1 p.2)++.i i.1 i.2::cN (d.k-d.p- 2) K.nx)=aQ env:=by
    unfold pull;rw[Y];rw[mT,fL,fL,ko,ko];have e1:dS (more ρ K.nx rest) (.i 0 0)=SV.z:=by show SV.mk _ _ _ _=_;rw[J];rfl
    have e2:Z9.map (dS (more ρ K.nx rest)∘λ p=>SE.i p.1 p.2)=Z9.map ((λ n=>(⟨n,false,[],[]⟩:SV))∘b8 ρ):=by
     refine kX λ p D=>?_
     show SV.mk _ _ _ _=SV.mk _ _ _ _;rw[<-q p.1 (A p D)];rfl
    have Z:dS (more ρ K.nx rest) (.i i.1 i.2)=⟨b8 ρ i,false,[],[]⟩:=by show SV.mk _ _ _ _=_;rw[<-q i.1 hi];rfl
    rw[e1,e2,Z];refine XQ ?_;show aQ ([_]++_)=aQ ([_]++_);exact XQ (az0 u)
   grind[Dq,KL,RY,wP]
  cases h
 .cases h
def anP{E y:bk}(h:kG E y)(A:∀x,x<n->∃v,E[x]? =some (some v)):y.take n=E.take n:=by
 refine xr λ x=>?_
 rw[qw,qw];by_cases q:x<n;.rw[ao q,ao q];obtain⟨v,u⟩:=A x q;rw[u,h.2 x v u]
 rw[aj q,aj q]
structure apE (C:eL) (m:Nat):Prop where
 f:∀{K:XK} {ρ:bm} {f:cq} {E E':bk},cB K->bw C.tb ρ K->eY K.nx E->Nn C K m f E=some E'->lV C.tb ρ K.nx E E' λ r=>dL C.tb r f
 fs:∀{K:XK} {ρ:bm} {l:List cq} {E E':bk},cB K->bw C.tb ρ K->eY K.nx E->uS C K m l E=some E'->lV C.tb ρ K.nx E E' λ r=>∀f∈l,dL C.tb r f
 el:∀{K:XK} {ρ:bm} {nm:Nat} {Z9:List (Nat×Int)} {i:Nat×Int} {cells:List XV},cB K->bw C.tb ρ K->(∀p∈Z9,p.1<K.nx)->i.1<K.nx->dk K.nx cells->Ba C K m nm Z9 i cells=true->dX C.tb nm (Z9.map (b8 ρ)) (b8 ρ i) (aE ρ cells)
 els:∀{K:XK} {ρ:bm} {nm:Nat} {Z9:List (Nat×Int)} {i:Nat} {es:List (List XV)},cB K->bw C.tb ρ K->(∀p∈Z9,p.1<K.nx)->(∀e∈es,dk K.nx e)->elems C K m nm Z9 i es=true->∀j e,es[j]? =some e->dX C.tb nm (Z9.map (b8 ρ)) ((i+j:Nat):Int) (aE ρ e)
 sub:∀{K:XK} {ρ:bm} {n' nm nm':Nat} {c':Int} {Z9 as':List (Nat×Int)},cB K->bw C.tb ρ K->(∀p∈Z9,p.1<K.nx)->(∀p∈as',p.1<K.nx)->n'<K.nx->KA C K m n' c' nm' as' nm Z9=true->∀(j:Int) e,0<=j->j<(ρ n').i+c'->dX C.tb nm' (as'.map (b8 ρ)) j e->dX C.tb nm (Z9.map (b8 ρ)) j e
def tU(q:bw C.tb ρ K){f:cq}(h:f∈K.fs):dL C.tb ρ f:=q.fs f h
theorem Jw{l:List α}{e:α}(h:l[i]? =some e):i<l.length:=by grind
theorem zA(ht:kI C.tb):∀m,apE C m
 |0=>⟨λ _ _ _ h=>(by unfold Nn at h;cases h),λ _ _ _ h=>(by unfold uS at h;cases h),λ _ _ _ _ _ h=>(by unfold Ba at h;cases h),λ _ _ _ _ h=>(by unfold elems at h;cases h),λ _ _ _ _ _ h=>(by unfold KA at h;cases h)⟩
 |m+1=>by
  have ih:=zA ht m;refine⟨?_,?_,?_,?_,?_⟩
  .intro K ρ f E E' D u N h;unfold Nn at h;cases f with
   |le a b c=>
    simp only at h;split at h
    .rename_i x d y e Z h2;split at h;.rename_i ab;cases h;refine⟨.rfl,N,λ F A=>?_⟩;have e1:=tI (ρ:=ρ) Z A;have e2:=tI (ρ:=ρ) h2 A;have e3:=dr u ab;unfold b8 at e1 e2;show(cg ρ F a).i<=(cg ρ F b).i+c;simp only at e1 e2;omega
     cases h
    cases h
   |bb x b=>
    simp only at h;split at h
    .rename_i b' J;split at h;.rename_i e;cases h;refine⟨.rfl,N,λ F A=>?_⟩;show(cg ρ F x).b=b;rw[fG (A.2 _ _ (kS J)),e];rfl
     cases h
    .rename_i y J;split at h
     .rename_i b' k' hv;split at h;.rename_i e;cases h;refine⟨.rfl,N,λ F A=>?_⟩;show(cg ρ F x).b=b;rw[fG (A.2 _ _ (kS J))];obtain⟨_,r,hr,ρ',_,_,hp⟩:=JK D u (N _ _ (kS J)).bs;rw[hv,dp]at hr;subst hr;show(ρ y).b=b;rw[<-hp,e]
      cases h
     cases h
    cases h
   |str x set=>
    simp only at h;split at h
    .rename_i s J;split at h;.rename_i e;cases h;refine⟨.rfl,N,λ F A=>?_⟩;show(cg ρ F x).s∈set;rw[fG (A.2 _ _ (kS J))];exact aBd e
     cases h
    .rename_i y J;split at h
     .rename_i l hl;split at h;.rename_i e;cases h;refine⟨.rfl,N,λ F A=>?_⟩;show(cg ρ F x).s∈set;rw[fG (A.2 _ _ (kS J))];have Z:(ρ y).s∈l:=tU u (awa hl);unfold agN at e;rw[ij]at e;exact aBd (e _ Z)
      cases h
     cases h
    cases h
   |el x i c cells=>
    simp only at h;split at h
    .rename_i y o j d J hj;split at h;.rename_i vs hv;have hm:=SH hv;have L:=D.fs _ hm;obtain⟨a1,a2,a3⟩:=Bt u N L.2.2 h;refine⟨a1,a2,λ F A=>?_⟩;obtain⟨q,q1,q2⟩:=tU u hm;have e1:=tI (ρ:=ρ) hj (a1.trans A);unfold b8 at e1;refine⟨q,by rw[<-q1];exact e1,?_⟩;rw[fG ((a1.trans A).2 _ _ (kS J)),a3 F A];exact q2
     cases h
    cases h
   |sum z a b c=>cases h
   |pr k l=>
    simp only at h;split at h
    .rename_i l' hl;split at h
     .rename_i P;cases h;refine⟨.rfl,N,λ F A=>?_⟩;obtain⟨e1,e2⟩:=Wk u D N A hl;show C.tb.pr k (l.map (dS (cg ρ F)));rw[e1];rw[nZ]at P;rcases P with P|P
      .exact anE u P
      exact WR ht u D (f:=.pr k l') e2 P
     cases h
    cases h
   |sl x n c nm Z9=>
    simp only at h;split at h
    .rename_i y o J;split at h
     .rename_i n' c' ao an hs;have hm:=qm hs;have L:=D.fs _ hm;have hf:=tU u hm;split at h
      .rename_i E1 Z;split at h
       .rename_i bs h2;split at h
        .rename_i P;cases h;obtain⟨a1,a2,a3⟩:=DG u N L.2.1 Z;refine⟨a1,a2,λ F A=>?_⟩;have ex:cg ρ F x=ρ y:=fG ((a1.trans A).2 _ _ (kS J));refine⟨?_,λ i e G=>?_⟩;.rw[ex,a3 F A];exact hf.1
         rw[ex]at G;rw[Oo A h2];have ai:=hf.2 i e G;rw[nZ,nZ]at P;rcases P with(P|P)|hd
         .grind[Nat.eq_of_beq_eq_true,acz]
         .refine ih.sub D u (KK a2 h2) L.2.2 L.2.1 P i e (Int.natCast_nonneg _) ?_ ai;have:=Jw G;have:=hf.1;omega
         exact(WR ht u D (f:=.sl y n' c' nm bs) ⟨L.1,L.2.1,KK a2 h2⟩ hd).2 i e G
        cases h
       cases h
      cases h
     cases h
    .rename_i es o J;split at h
     .rename_i E1 Z;split at h
      .rename_i bs h2;split at h
       .rename_i P;cases h;obtain⟨a1,a2,a3⟩:=DG u N D.z Z;refine⟨a1,a2,λ F A=>?_⟩;have ex:cg ρ F x=⟨0,false,[],cL ρ es⟩:=fG ((a1.trans A).2 _ _ (kS J));have hz:(ρ 0).i=0:=by rw[u.z];rfl
        refine⟨?_,λ i e G=>?_⟩;.grind[ly]
        rw[ex]at G;have G:(cL ρ es)[i]? =some e:=G;rw[Oo A h2];rw[ly,bM]at G;cases S:es[i]?;.rw[S]at G;cases G
        rename_i e0;rw[S]at G;cases G;have:=ih.els D u (KK a2 h2) (N _ _ (kS J)).sx P i e0 S;grind
       cases h
      cases h
     cases h
    cases h
  .intro K ρ l E E' D u N h;unfold uS at h;cases l;.cases h;exact⟨.rfl,N,λ _ _ f hf=>by cases hf⟩
   rename_i f l;simp only at h;split at h
   .rename_i E1 Z;obtain⟨a1,a2,a3⟩:=ih.f D u N Z;obtain⟨b1,b2,b3⟩:=ih.fs D u a2 h;refine⟨a1.trans b1,b2,λ F A g hg=>?_⟩;rcases ck.1 hg with rfl|hg
    .exact a3 F (b1.trans A)
    exact b3 F A g hg
   cases h
  .intro K ρ nm Z9 i cells D u Y hi ac h;unfold Ba at h;split at h
   .rename_i d hd;split at h
    .rename_i hp;split at h
     .rename_i E Z;have av:eY K.nx (some (.int .i64 0 0)::Z9.map (λ p=>some (XV.int .i64 p.1 p.2))++some (.int .i64 i.1 i.2)::List.replicate (d.k-d.p- 2) none):=by intro x v J;grind[eD]
      obtain⟨a1,a2,a3⟩:=Bt u av ac Z;rw[pI]at h;obtain⟨E',h2⟩:=h;obtain⟨b1,b2,b3⟩:=ih.fs D u a2 h2;have ab:=a1.trans b1;have ax:=(ht.1 nm d hd).2;refine(yP ht hd).2 ⟨by rw[aF];exact hp,E'.map (jO ρ),?_,?_,(a3 E' b1).symm,b3 E' .rfl⟩
      .have af:E'.take (d.p+2)=some (XV.int .i64 0 0)::Z9.map (λ p=>some (XV.int .i64 p.1 p.2))++[some (.int .i64 i.1 i.2)]:=by
        rw[anP ab]
        .show List.take (d.p+2) ((some (XV.int .i64 0 0)::Z9.map (λ p=>some (XV.int .i64 p.1 p.2)))++(some (.int .i64 i.1 i.2)::List.replicate (d.k-d.p- 2) none))=_;have ad:(some (XV.int .i64 0 0)::Z9.map (λ p=>some (XV.int .i64 p.1 p.2))).length=d.p+1:=by grind
         rw[aiJ,ad,mB (by rw[ad];omega)];rw[show d.p+2-(d.p+1)=1 by omega];rfl
        grind
       have aa:E'.map (jO ρ)=(E'.take (d.p+2)).map (jO ρ)++(E'.map (jO ρ)).drop (d.p+2):=by grind[List.map_drop,List.take_append_drop]
       have hz:jO ρ (some (.int .i64 0 0))=SV.z:=by show SV.mk _ _ _ _=_;rw[u.z];rfl
       have hm:(Z9.map (λ p=>some (XV.int .i64 p.1 p.2))).map (jO ρ)=(Z9.map (b8 ρ)).map (λ n=>⟨n,false,[],[]⟩):=by rw[ko,ko];rfl
       conv=>lhs;rw[aa]
       rw[af,mT,fL,hz,hm];show _++[_]++_=_;rw[vH];rfl
      rw[aF,<-ab.1,dM,cD,cD,aF,om,hp];omega
     cases h
    cases h
   cases h
  .intro K ρ nm Z9 i es D u Y S h j e G;unfold elems at h;cases es;.simp at G
   rename_i e0 es;simp only at h;rw[aR]at h;cases j
   .simp at G;subst G;have:=ih.el D u Y (i:=(0,(i:Int))) D.z (S _ cS) h.1;have hz:(ρ 0).i=0:=by rw[u.z];rfl
    grind[b8]
   rename_i j;have G:es[j]? =some e:=by simpa using G
   have:=ih.els D u Y (λ e' h'=>S e' (cz _ h')) h.2 j e G;grind
  intro K ρ n' nm ao c' Z9 an D u Y am hn h j e h0 Z hs;unfold KA at h;split at h
  .rename_i cells K' hi
   let ρ1:=nV ρ K.nx j
   have ag:bY K.nx ρ ρ1:=uF;have ej:(ρ1 K.nx).i=j:=vo;have en:ρ1 n'=ρ n':=(ag n' hn).symm;have ap:(ρ1 0).i=0:=by rw[<-ag 0 D.z,u.z];rfl
   have au:bw C.tb ρ1 K:=u.nh D ag;have hl:K.nx<K.new.nx:=iW _;have ar:0<K.new.nx:=BH _;have aq:n'<K.new.nx:=iq hn;have al:cB ((K.new.add 0 0 K.nx 0).add K.nx 1 n' c'):=iC (iC (oH D) ar hl) hl aq;have aj:bw C.tb ρ1 ((K.new.add 0 0 K.nx 0).add K.nx 1 n' c'):=gL (gL (pa au) (by rw[ej,ap];omega)) (by rw[ej,en];omega);have ae:∀p∈an,p.1<((K.new.add 0 0 K.nx 0).add K.nx 1 n' c').nx:=λ p hp=>iq (am p hp)
   have ak:∀p∈Z9,p.1<((K.new.add 0 0 K.nx 0).add K.nx 1 n' c').nx:=λ p hp=>iq (Y p hp)
   obtain⟨q1,q2,q3,_⟩:=Oz al ae hl hi;have aw:b8 ρ1 (K.nx,0)=j:=by show(ρ1 K.nx).i+0=j;rw[ej,iY]
   obtain⟨ah,g1,g2,g3⟩:=PS ht al aj ae hl hi (e:=e) (by grind[uN]);have:=ih.el q2 g2 (λ p hp=>dF (ak p hp) q1) (i:=(K.nx,0)) (dF hl q1) q3 h;rw[<-g3]at this;have e1:Z9.map (b8 ah)=Z9.map (b8 ρ):=((uN ag Y).trans (uN g1 ak)).symm;have e2:b8 ah (K.nx,0)=j:=by rw[<-Hw g1 (p:=(K.nx,0)) hl];exact aw
   grind
  cases h
end
section
variable{es:List (List XV)}{hi lo:Option XV}{j t:Nat}{l:aS}{str:Bool}
variable{ρ ρ':bm}{C:eL}{K K':XK}{P:Program}
def RD{n:Int}(h:0<=n):∃j:Nat,n=j:=⟨n.toNat,(Int.toNat_of_nonneg h).symm⟩
def xY{k:IntKind}{n:Int}(h:n=j):AJ (.sc (.int k n))=some j:=by subst h;rfl
def Gs{o:Nat}(h:dk n cs):bg n (.rp cs o):=λ ρ ρ' q=>by show ae.rp _ _=.rp _ _;rw[h ρ ρ' q]
theorem KN(h:dk n cs):bg n (.agg cs):=λ ρ ρ' q=>by show ae.agg _=.agg _;rw[h ρ ρ' q]
def axN(h:dk n cs):bg n (.aL cs):=λ ρ ρ' q=>by show ae.aL _=.aL _;rw[h ρ ρ' q]
def ZS{f:Nat}(h:dk n cs):bg n (.fn f cs):=λ ρ ρ' q=>by show ae.fn _ _=.fn _ _;rw[h ρ ρ' q]
theorem GL{o:Option Nat}(h:∀e∈es,dk n e):bg n (.sx es o):=λ ρ ρ' u=>by show ae.sl _ _=.sl _ _;rw[ly,ly,kX λ e q=>h e q ρ ρ' u]
theorem yX(l:List XV):(aE ρ l).length=l.length:=by rw[dz,aF]
theorem Cy(l:List (List XV)):(cL ρ l).length=l.length:=by rw[ly,aF]
abbrev asT(sl:Option Nat)(h:Option (Nat×Nat))(x ix:ae):bm->XV->Prop:=λ ρ' v=>mP sl h x ix=some (ev ρ' v)
theorem arh(ht:kI C.tb)(D:cB K)(A:bw C.tb ρ K){sl:Option Nat}{ar:Option (Nat×Nat)}{x ix:XV}{l:List (XV×XK)}(Z:bg K.nx x)(hi:bg K.nx ix)(h:TV C K sl ar x ix=some l):
 gu C.tb ρ K bg (asT sl ar (ev ρ x) (ev ρ ix)) l:=by
 have Y:(ρ 0).i=0:=by rw[A.z];rfl
 unfold TV at h;split at h
 .rename_i y o k i c;split at h
  .rename_i sz n d nm Z9 hs;split at h
   .rename_i L;rw[aR]at L;have h1:=dr A L.1;have h2:=dr A L.2;rw[Y]at h1;obtain⟨j,N⟩:=RD (show 0<=(ρ i).i+c by omega);have hm:=qm hs;have hf:=tU A hm;have ac:=D.fs _ hm;have u:j<(ρ y).l.length:=by have:=hf.1;omega
    have J:(ρ y).l[j]? =some (ρ y).l[j]:=cW u;have xH:∀e:List ae,(ρ y).l[j]? =some e->e.length=sz->mP (some sz) ar (.sl (ρ y).l o) (.sc (.int k ((ρ i).i+c)))=some (.rp e 0):=by intro e J G;unfold mP;rw[xY N];simp only[J,ao G]
    split at h
    .rename_i cells af;split at h
     .rename_i G;cases h;have aa:=SH af;obtain⟨q,q1,q2⟩:=tU A aa;have:q=j:=by omega
      subst this;refine iI D (Gs (D.fs _ aa).2.2) A ?_;exact xH _ q2 (by rw[yX];exact G)
     cases h
    split at h
    .rename_i cells K' ab;split at h
     .rename_i G;cases h;have ad:b8 ρ (i,c)=j:=N;obtain⟨q1,q2,q3,_⟩:=Oz D ac.2.2 hi.int ab;obtain⟨S,g1,g2,g3⟩:=PS ht D A ac.2.2 hi.int ab (e:=(ρ y).l[j]) (by rw[ad];exact hf.2 j _ J);refine qH (ρ':=S) (by rw[pM];exact q1) (wF q2 ⟨dF Z.sl q1,dF hi.int q1,q3⟩) (by rw[pM];exact Gs q3) g1 (xk g2 ⟨j,?_,?_⟩) ?_;.rw[<-g1 i hi.int];exact N
      .rw[<-g1 y Z.sl,J,g3]
      show mP _ _ _ _=some (ae.rp (aE S cells) 0);rw[<-g3];exact xH _ J (by rw[g3,yX];exact G)
     cases h
    cases h
   cases h
  cases h
 .rename_i es o k i c;split at h
  .rename_i sz;have xH:∀(j:Nat) (e:List XV),(ρ i).i+c=j->es[j]? =some e->e.length=sz->mP (some sz) ar (.sl (cL ρ es) o) (.sc (.int k ((ρ i).i+c)))=some (.rp (aE ρ e) 0):=by intro j e N J G;unfold mP;rw[xY N];grind[ly,yX]
   split at h
   .rename_i F;have F:=cU F;subst F;split at h
    .rename_i j;split at h
     .rename_i e J;split at h;.rename_i G;cases h;exact iI D (Gs (Z.sx e (jm J))) A (xH j e (by rw[Y];simp) J G)
      cases h
     cases h
    cases h
   split at h
   .rename_i L;rw[aR,aR]at L;cases h;have h1:=dr A L.1.1;have h2:=dr A L.1.2;rw[Y]at h1 h2;obtain⟨j,N⟩:=RD (show 0<=(ρ i).i+c by omega);have u:j<es.length:=by omega
    refine⟨λ r hr=>?_,(.rp es[j] 0,(K.add i c 0 j).add 0 j i c),?_,ρ,.rfl,gL (gL A (by omega)) (by omega),?_⟩;.obtain⟨p,hp,rfl⟩:=eK.1 hr;refine⟨be _,iC (iC D hi.int D.z) D.z hi.int,?_⟩;have:p.1∈es:=aBe hp;exact Gs (Z.sx _ this)
    .refine eK.2 ⟨(es[j],j),?_,rfl⟩;grind
    have G:=(ij.1 L.2) es[j] (xC u);exact xH j _ N (cW u) (by simpa using G)
   cases h
  cases h
 .rename_i d k off ki i c;split at h
  .rename_i n sz;split at h
   .rename_i F;have F:=cU F;subst F;split at h
    .rename_i j;split at h;.rename_i u;cases h;refine iI D (λ _ _ _=>rfl) A ?_;show mP _ _ (.ptr d k off) (.sc (.int ki ((ρ 0).i+Int.ofNat j)))=_;unfold mP;rw[xY (j:=j) (by rw[Y];simp)];simp only[ao u];rfl
     cases h
    cases h
   cases h
  cases h
 .rename_i cs off ki i c;split at h
  .rename_i n sz;split at h
   .rename_i F;have F:=cU F;subst F;split at h
    .rename_i j;split at h
     .rename_i u;cases h;refine iI D (λ ρ ρ' ha=>?_) A ?_;.have:=Z ρ ρ' ha;grind[ev]
      show mP _ _ (.rp (aE ρ cs) off) (.sc (.int ki ((ρ 0).i+Int.ofNat j)))=_;unfold mP;rw[xY (j:=j) (by rw[Y];simp)];simp only[ao u];rfl
     cases h
    cases h
   cases h
  cases h
 .cases h
def atJ(D:∀t,C.st t=true->P.underlying t=some .string)(q:cB K)(u:bw C.tb ρ K){sl:Bool}{x:XV}(J:bg K.nx x)(h:Uk C K sl t x=some r):
 gu C.tb ρ K bg (λ ρ' v=>yc P sl t (ev ρ x)=some (ev ρ' v)) [r]:=by
 have A:(ρ 0).i=0:=by rw[u.z];rfl
 unfold Uk at h;split at h
 .rename_i s;split at h;.rename_i e;cases h;refine iI q (eD q.z) u ?_;show(match dD P t (.str s)with|some r=>kx r|none=>none)=some (ae.sc (.int .i64 ((ρ 0).i+s.length)));rw[A,xD];unfold dD;rw[D t e];rfl
  cases h
 .rename_i es o;split at h;.cases h;refine iI q (eD q.z) u ?_;show some (ae.sc (.int .i64 ((cL ρ es).length:Nat)))=some (.sc (.int .i64 ((ρ 0).i+es.length)));rw[A,xD,Cy]
  cases h
 .rename_i y o;split at h;.rename_i n c nm Z9 F;cases h;have G:=tU u (qm F);refine iI q (eD (q.fs _ (qm F)).2.1) u ?_;show some (ae.sc (.int .i64 ((ρ y).l.length:Nat)))=some (.sc (.int .i64 ((ρ n).i+c)));rw[G.1]
  cases h
 .rename_i d k n sz;split at h;.cases h;refine iI q (eD q.z) u ?_;show some (ae.sc (.int .i64 (n:Nat)))=some (.sc (.int .i64 ((ρ 0).i+n)));rw[A,xD]
  cases h
 .cases h
def vP(ρ:bm)(x:Nat)(l:aS):bm:=λ y=>if y=x then⟨0,false,[],l⟩else ρ y
def Ul{x:Nat}:bY x ρ (vP ρ x l):=λ y h=>by show _=if y=x then _ else _;rw[aj (by omega)]
theorem A6{x:Nat}:(vP ρ x l x).l=l:=by show(if x=x then _ else _:SV).l=_;rw[ao rfl]
theorem Sk(h:kI C.tb){y:Nat}{c:Int}{d:vQ}(D:C.tb.td nm=some d)(u:dL C.tb ρ (.sl y n c nm Z9))(q:d.cells.length=sz):fR sz (ρ y).l=true:=by unfold fR;rw[ij];intro e A;obtain⟨i,hi⟩:=VD A;rw[ary h D (u.2 i e hi),q];simp
theorem RR(h:es.all (λ e=>e.length==sz)=true):fR sz (cL ρ es)=true:=by grind[fR,ly,yX]
theorem ayF(ht:kI C.tb)(S:cB K)(D:bw C.tb ρ K){s0:aq}{s x:XV}(hs:bg K.nx s)(hx:bg K.nx x)(h:Om C K sz s x=some r):
 gu C.tb ρ K bg (λ ρ' v=>iG s0 sz (ev ρ s) (ev ρ x)=some (ev ρ' v)) [r]:=by
 have hz:(ρ 0).i=0:=by rw[D.z];rfl
 unfold Om at h;split at h
 .rename_i es z new o;split at h
  .rename_i hc;cases h;refine iI S (GL λ e A=>?_) D ?_
   .rcases jA.1 A with q|q
    .exact hs.sx e q
    exact hx.sx e q
   show(if(z=sz\/(z=0/\cL ρ es=[]))/\(cL ρ es).length+(cL ρ new).length<=1073741824/\fR sz (cL ρ new)=true then some (ae.sl (cL ρ es++cL ρ new) (some sz))else none)=some (.sl (cL ρ (es++new)) (some sz));grind[ly,RR]
  cases h
 .rename_i es z y o;split at h
  .rename_i n c nm Z9 ah;split at h
   .rename_i d hd;split at h
    .rename_i hc;cases h;obtain⟨c1,c2,c3,c4⟩:=hc;have hf:=tU D (qm ah);have Y:=dr D c4;rw[hz]at Y;unfold maxLen at Y;have aJ:es=[]:=km c1;subst aJ;refine iI S (sP hx.sl) D ?_;show(if(z=sz\/(z=0/\([]:aS)=[]))/\0+(ρ y).l.length<=1073741824/\fR sz (ρ y).l=true then some (ae.sl ([]++(ρ y).l) (some sz))else none)=some (.sl (ρ y).l (some sz));rw[ao];.rfl
     refine⟨?_,?_,Sk ht hd hf c3⟩;.grind
     have:=hf.1;omega
    cases h
   cases h
  cases h
 .rename_i y z new o;split at h
  .rename_i n c nm Z9 ah;split at h
   .rename_i hc;cases h;obtain⟨c1,c2,c3,c4⟩:=hc;subst c1;have hm:=qm ah;have hf:=tU D hm;have J:=S.fs _ hm;have Y:=dr D c3;rw[hz]at Y;unfold maxLen at Y;have aL:=hf.1;have F:bY K.nx ρ (vP ρ K.nx ((ρ y).l++cL ρ new)):=Ul;refine qH (ρ':=vP ρ K.nx ((ρ y).l++cL ρ new)) (by rw[pM];exact jl _) (wF (oH S) ⟨iW _,iq J.2.1,λ p hp=>iq (J.2.2 p hp)⟩) (by rw[pM];exact sP (iW _)) F (xk (pa (D.nh S F)) ⟨?_,λ i e A=>?_⟩) ?_;.rw[A6,<-F n J.2.1,dM,Cy];omega
    .rw[A6]at A;rw[<-uN F J.2.2];rw[List.getElem?_append]at A;split at A;.exact hf.2 i e A
     rename_i aM;rw[ly,bM]at A;cases aa:new[i-(ρ y).l.length]?;.rw[aa]at A;cases A
     rename_i e0;rw[aa]at A;cases A;have ap:(e0,i-(ρ y).l.length)∈new.zipIdx:=Ig.2 aa;have:=ij.1 c4 _ ap;have h5:=(zA ht cF).el S D J.2.2 (i:=(n,c+(i-(ρ y).l.length:Nat))) J.2.1 (hx.sx e0 (jm aa)) this;grind[b8]
    show(if(z=z\/(z=0/\(ρ y).l=[]))/\(ρ y).l.length+(cL ρ new).length<=1073741824/\fR z (cL ρ new)=true then some (ae.sl ((ρ y).l++cL ρ new) (some z))else none)=some (.sl (vP ρ K.nx ((ρ y).l++cL ρ new) K.nx).l (some z));grind[A6,Cy,RR]
   cases h
  cases h
 .rename_i y z x o;split at h
  .rename_i n c nm Z9 n' c' aD aC aG aF;split at h
   .rename_i d hd;split at h
    .rename_i hc;obtain⟨c1,c2⟩:=hc;subst c1;split at h
     .rename_i cells K' hh aN ax hu aE;split at h
      .rename_i ai;cases h;rw[aR]at ai;have aH:=GY ai.1;unfold maxLen at aH;have au:=qm aG;have ar:=qm aF;have az:=tU D au;have ay:=tU D ar;have N:=S.fs _ au;have ab:=S.fs _ ar;have u1:=DC D hu;have u2:=DC D aE;have l1:=az.1;have l2:=ay.1
       have af:∀(i k:Nat) e,dX C.tb aD (aC.map (b8 ρ)) i e->dX C.tb nm (Z9.map (b8 ρ)) (k:Int) e:=by
        intro i k e hr
        let ρ1:=nV (nV ρ K.nx i) (K.nx+1) k
        have aj:bY K.nx ρ (nV ρ K.nx i):=uF;have Z:bY (K.nx+1) (nV ρ K.nx i) ρ1:=uF;have F:bY K.nx ρ ρ1:=aj.trans Z (jl _);have ei:(ρ1 K.nx).i=i:=by rw[<-Z K.nx (iW _)];exact vo
        have ek:(ρ1 (K.nx+1)).i=k:=vo;have al:(ρ1 0).i=0:=by rw[<-F 0 S.z];exact hz
        have aw:0<K.new.new.nx:=BH _;have u:K.nx<K.new.new.nx:=iq (iW _);have G:K.nx+1<K.new.new.nx:=iW _;have aB:cB ((K.new.new.add 0 0 K.nx 0).add 0 0 (K.nx+1) 0):=iC (iC (oH (oH S)) aw u) aw G;have aI:bw C.tb ρ1 ((K.new.new.add 0 0 K.nx 0).add 0 0 (K.nx+1) 0):=gL (gL (pa (pa (D.nh S F))) (by rw[ei,al];omega)) (by rw[ek,al];omega);have ad:∀p∈aC,p.1<((K.new.new.add 0 0 K.nx 0).add 0 0 (K.nx+1) 0).nx:=λ p hp=>iq (iq (ab.2.2 p hp))
        have aA:∀p∈Z9,p.1<((K.new.new.add 0 0 K.nx 0).add 0 0 (K.nx+1) 0).nx:=λ p hp=>iq (iq (N.2.2 p hp))
        obtain⟨q1,q2,q3,_⟩:=Oz aB ad u ax;have aK:b8 ρ1 (K.nx,0)=i:=by show(ρ1 K.nx).i+0=_;rw[ei,iY]
        obtain⟨ak,g1,g2,g3⟩:=PS ht aB aI ad u ax (e:=e) (by rw[aK,<-uN F ab.2.2];exact hr);have h5:=(zA ht cF).el q2 g2 (λ p hp=>dF (aA p hp) q1) (i:=(K.nx+1,0)) (dF G q1) q3 ai.2;rw[<-g3]at h5;have e1:Z9.map (b8 ak)=Z9.map (b8 ρ):=((uN F N.2.2).trans (uN g1 aA)).symm;have e2:b8 ak (K.nx+1,0)=k:=by rw[<-Hw g1 (p:=(K.nx+1,0)) G];show(ρ1 (K.nx+1)).i+0=_;rw[ek,iY]
        rw[e1,e2]at h5;exact h5
       let L:=(ρ y).l++(ρ x).l
       let ρ1:=vP (nV ρ K.nx L.length) (K.nx+1) L
       have aj:bY K.nx ρ (nV ρ K.nx L.length):=uF;have Z:bY (K.nx+1) (nV ρ K.nx L.length) ρ1:=Ul;have F:bY K.nx ρ ρ1:=aj.trans Z (jl _);have en:(ρ1 K.nx).i=L.length:=by rw[<-Z K.nx (iW _)];exact vo
       have el:(ρ1 (K.nx+1)).l=L:=A6;have aO:(L.length:Int)=(ρ n).i+c+((ρ n').i+c'):=by grind
       have an:ρ1 n=ρ n:=(F n N.2.1).symm;have am:ρ1 n'=ρ n':=(F n' ab.2.1).symm;have u:K.nx<K.new.new.nx:=iq (iW _);have G:K.nx+1<K.new.new.nx:=iW _;have av:n<K.new.new.nx:=iq (iq N.2.1);have ac:n'<K.new.new.nx:=iq (iq ab.2.1);refine qH (ρ':=ρ1) ?_ (wF (iC (iC (iC (iC (oH (oH S)) u av) u ac) av u) ac u) ⟨G,u,λ p hp=>iq (iq (N.2.2 p hp))⟩) ?_ F (xk (gL (gL (gL (gL (pa (pa (D.nh S F))) ?_) ?_) ?_) ?_) ⟨?_,λ i e A=>?_⟩) ?_;.rw[pM];exact Nat.le_succ_of_le (jl _)
       .rw[pM];exact sP G
       .rw[en,an];omega
       .rw[en,am];omega
       .rw[en,an];omega
       .rw[en,am];omega
       .rw[el,en];omega
       .rw[el]at A;rw[<-uN F N.2.2];have A:((ρ y).l++(ρ x).l)[i]? =some e:=A;rw[List.getElem?_append]at A;split at A;.exact az.2 i e A
        exact af _ i e (ay.2 _ e A)
       show(if(z=z\/(z=0/\(ρ y).l=[]))/\(ρ y).l.length+(ρ x).l.length<=1073741824/\fR z (ρ x).l=true then some (ae.sl ((ρ y).l++(ρ x).l) (some z))else none)=some (.sl (ρ1 (K.nx+1)).l (some z));grind[Sk]
      cases h
     cases h
    cases h
   cases h
  cases h
 .cases h
theorem aud(ht:kI C.tb)(G:cB K)(q:bw C.tb ρ K){sl:Option Nat}{x:XV}(hx:bg K.nx x)(hh:∀v,hi=some v->bg K.nx v)(h:On C K sl x lo hi=some r):
 gu C.tb ρ K bg (λ ρ' v=>nf sl str (ev ρ x) (lo.map (ev ρ)) (hi.map (ev ρ))=some (ev ρ' v)) [r]:=by
 have S:(ρ 0).i=0:=by rw[q.z];rfl
 unfold On at h;split at h
 .rename_i sz y o k A c;split at h
  .rename_i n d nm Z9 Y;split at h
   .rename_i t hd;split at h
    .rename_i L;cases h;obtain⟨c1,c2,c3⟩:=L;have h1:=dr q c2;have h2:=dr q c3;rw[S]at h1;have hm:=qm Y;have hf:=tU q hm;have F:=G.fs _ hm;have D:=(hh _ rfl).int;obtain⟨j,hj⟩:=RD (show 0<=(ρ A).i+c by omega);have N:bY K.nx ρ (vP ρ K.nx ((ρ y).l.take j)):=Ul;have aa:=hf.1;refine qH (ρ':=vP ρ K.nx ((ρ y).l.take j)) (by rw[pM];exact jl _) (wF (oH G) ⟨iW _,iq D,λ p hp=>iq (F.2.2 p hp)⟩) (by rw[pM];exact sP (iW _)) N (xk (pa (q.nh G N)) ⟨?_,λ i e u=>?_⟩) ?_;.rw[A6,<-N A D,n8];omega
     .rw[A6]at u;rw[<-uN N F.2.2];rw[qw]at u;split at u;.exact hf.2 i e u
      cases u
     show(match(some sz:Option Nat),kU none 0,kU (some (.sc (.int k ((ρ A).i+c)))) (ρ y).l.length with|some sz,some l,some h=>if l<=h/\h<=(ρ y).l.length/\fR sz (ρ y).l=true then some (ae.sl (((ρ y).l.drop l).take (h-l)) none)else none|_,_,_=>none)=some (.sl (vP ρ K.nx ((ρ y).l.take j) K.nx).l none);rw[A6];have J:kU (some (.sc (.int k ((ρ A).i+c)))) (ρ y).l.length=some j:=xY hj;rw[J];show(if 0<=j/\j<=(ρ y).l.length/\fR sz (ρ y).l=true then some (ae.sl (((ρ y).l.drop 0).take (j- 0)) none)else none)=_;grind[Sk]
    cases h
   cases h
  cases h
 .rename_i sz es o k A c;split at h
  .rename_i e0;have e0:=cU e0;subst e0;split at h
   .rename_i j;split at h;.rename_i L;cases h;refine iI G (GL λ e u=>hx.sx e (List.mem_of_mem_take u)) q ?_;show(match(some sz:Option Nat),kU none 0,kU (some (.sc (.int k ((ρ 0).i+Int.ofNat j)))) (cL ρ es).length with|some sz,some l,some h=>if l<=h/\h<=(cL ρ es).length/\fR sz (cL ρ es)=true then some (ae.sl (((cL ρ es).drop l).take (h-l)) none)else none|_,_,_=>none)=some (.sl (cL ρ (es.take j)) none);have J:kU (some (.sc (.int k ((ρ 0).i+Int.ofNat j)))) (cL ρ es).length=some j:=xY (by rw[S];simp);rw[J];show(if 0<=j/\j<=(cL ρ es).length/\fR sz (cL ρ es)=true then some (ae.sl (((cL ρ es).drop 0).take (j- 0)) none)else none)=_;grind[RR,ly,List.map_take]
    cases h
   cases h
  split at h;.rename_i L;cases h;obtain⟨c1,c2,c3⟩:=L;have Z:es=[]:=km c1;subst Z;have h1:=dr q c2;have h2:=dr q c3;rw[S]at h1 h2;refine iI G (GL λ e u=>by cases u) q ?_;show(match(some sz:Option Nat),kU none 0,kU (some (.sc (.int k ((ρ A).i+c)))) 0 with|some sz,some l,some h=>if l<=h/\h<=0/\fR sz []=true then some (ae.sl ((([]:aS).drop l).take (h-l)) none)else none|_,_,_=>none)=some (.sl [] none);have J:kU (some (.sc (.int k ((ρ A).i+c)))) 0=some 0:=xY (by omega);rw[J];rfl
  cases h
 .cases h
def agT(u:bw C.tb ρ K){d:Nat}{x:Option XV}(h:Ky d x=some j):kU (x.map (ev ρ)) d=some j:=by
 have q:(ρ 0).i=0:=by rw[u.z];rfl
 unfold Ky at h;split at h;.cases h;rfl
 .cases h;exact xY (by rw[q];simp)
 cases h
def ase(F:kI C.tb)(A:cB K)(u:bw C.tb ρ K){sl:Option Nat}{x:XV}(D:bg K.nx x)(G:∀v,hi=some v->bg K.nx v)(h:QZ C K sl str x lo hi=some r):
 gu C.tb ρ K bg (λ ρ' v=>nf sl str (ev ρ x) (lo.map (ev ρ)) (hi.map (ev ρ))=some (ev ρ' v)) [r]:=by
 unfold QZ at h;split at h
 .rename_i s;split at h
  .rename_i v q;cases h;unfold xSs at q;split at q
   .rename_i l y N L;split at q;.rename_i J;cases q;refine iI A vF u ?_;show(match true,kU (lo.map (ev ρ)) 0,kU (hi.map (ev ρ)) s.length with|true,some l,some h=>if l<=h/\h<=s.length then some (ae.sc (.str ((s.drop l).take (h-l))))else none|_,_,_=>none)=_;rw[agT u N,agT u L];show(if l<=y/\y<=s.length then some (ae.sc (.str ((s.drop l).take (y-l))))else none)=_;rw[ao J];rfl
    cases q
   cases q
  cases h
 .exact aud F A u D G h
def ar6(q:∀t,C.st t=true->P.underlying t=some .string)(A:cB K)(y:bw C.tb ρ K){x i:XV}(h:UH C t x i=some v):CU P t (ev ρ x) (ev ρ i)=some (ev ρ v)/\bg K.nx v:=by
 have u:(ρ 0).i=0:=by rw[y.z];rfl
 unfold UH at h;split at h
 .rename_i s k j;split at h;.rename_i b F D;cases h;refine⟨?_,eD A.z⟩;show(match yp P t (.str s) (.int k ((ρ 0).i+Int.ofNat j))with|some r=>kx r|none=>none)=some (ae.sc (.int .u8 ((ρ 0).i+(b.toNat:Nat))));rw[u,xD,xD];unfold yp;rw[q t F];simp only[D];rfl
  cases h
 cases h
end
section
variable{R:bm->XV->Prop}{src:List Tmp}
variable{ρ ρ':bm}{C:eL}{K K':XK}{P:Program}{gl:aM}{Z7:cI}{T:XT}{s:XS}{n:Nat}
def VZ{T:XT}(h:jW n T)(i:Nat):bg n (xS T i):=λ ρ ρ' q=>by rw[<-Ef,<-Ef,h ρ ρ' q]
theorem ahX{T:XT}(h:jW n T)(e:lk T i=some v):bg n v:=λ ρ ρ' q=>by
 have y:lk (bG ρ T) i=some (ev ρ v):=by rw[Ku,e];rfl
 have u:lk (bG ρ' T) i=some (ev ρ' v):=by rw[Ku,e];rfl
 rw[h ρ ρ' q,u]at y;grind
theorem Wa(q:0<n){v:ae}{w:XV}(h:D4 v=some w):bg n w:=by
 unfold D4 at h;split at h<;>cases h;.exact eD q
 .exact vF
 .exact λ _ _ _=>rfl
 exact λ _ _ _=>rfl
theorem AD(u:0<n):∀{v:List ae} {w:List XV},tu v=some w->dk n w
 |[],w,h=>by cases h;exact λ _ _ _=>rfl
 |v::l,w,h=>by
  unfold tu at h;split at h;.rename_i a r A y;cases h;exact λ ρ ρ' q=>by show ev ρ a::aE ρ r=ev ρ' a::aE ρ' r;rw[Wa u A ρ ρ' q,AD u y ρ ρ' q]
  cases h
theorem apd(q:0<n){v:ae}{w:XV}(h:xv v=some w):bg n w:=by unfold xv at h;grind[KN,AD,Wa]
theorem iy(q:0<n)(u:jW n T){x:bu}(h:fC T x=some v):bg n v:=by
 cases x with
 |t i=>cases h;exact VZ u i
 |i m=>cases h;exact eD q
 |b x=>cases h;exact vF
 |v x=>exact apd q h
 |g m=>cases h
 |f f=>cases h;exact λ _ _ _=>rfl
def Pw(u:0<n)(y:jW n T):∀{x:List bu} {v:List XV},Av T x=some v->dk n v
 |[],v,h=>by cases h;exact λ _ _ _=>rfl
 |x::l,v,h=>by
  unfold Av at h;split at h;.rename_i a r D A;cases h;exact λ ρ ρ' q=>by show ev ρ a::aE ρ r=ev ρ' a::aE ρ' r;rw[iy u y D ρ ρ' q,Pw u y A ρ ρ' q]
  cases h
def BdP(n:Nat)(l:List (Nat×XV)):Prop:=∀ρ ρ',bY n ρ ρ'->oJ ρ l=oJ ρ' l
def IY(u:0<n)(y:jW n T):∀{x:List (Nat×bu)} {v:List (Nat×XV)},zi T x=some v->BdP n v
 |[],v,h=>by cases h;exact λ _ _ _=>rfl
 |(i,x)::l,v,h=>by
  unfold zi at h;split at h;.rename_i a r D A;cases h;exact λ ρ ρ' q=>by show(i,ev ρ a)::oJ ρ r=(i,ev ρ' a)::oJ ρ' r;rw[iy u y D ρ ρ' q,IY u y A ρ ρ' q]
  cases h
theorem alY(u:0<n)(y:jW n T){x:Option bu}{v:Option XV}(h:B6 T x=some v):∀w,v=some w->bg n w:=by
 intro w q;cases x;.cases h;cases q
 rename_i x;grind[B6,iy]
def Mf(u:jW n T)(q:bg n v){d:Option Tmp}:jW n (s6 m T d v):=λ ρ ρ' h=>by rw[<-C7,<-C7,u ρ ρ' h,q ρ ρ' h]
def adv(q:jW n T)(l:List Tmp):jW n (yi l T):=λ ρ ρ' h=>by rw[<-CL,<-CL,q ρ ρ' h]
def Fa(y:jW n T)(u:kB n s)(o:Option (List Nat×List Nat)):jW n (dI o T s).1/\kB n (dI o T s).2:=by
 have q:∀ρ ρ',bY n ρ ρ'->(bG ρ (dI o T s).1,aX ρ (dI o T s).2)=(bG ρ' (dI o T s).1,aX ρ' (dI o T s).2):=λ ρ ρ' h=>by rw[<-Ay,<-Ay,y ρ ρ' h,u ρ ρ' h]
 exact⟨λ ρ ρ' h=>(xE (q ρ ρ' h)).1,λ ρ ρ' h=>(xE (q ρ ρ' h)).2⟩
def wG(tb:js)(ρ:bm)(K:XK)(Q:bm->gP->Prop)(l:List gP):Prop:=∃r∈l,∃ρ',bY K.nx ρ ρ'/\bw tb ρ' r.k/\(K.nx<=r.k.nx/\cB r.k/\bg r.k.nx r.v/\kB r.k.nx r.s)/\Q ρ' r
theorem nS{Q:bm->gP->Prop}{r:gP}(q:r.k=K)(D:cB K)(A:bw C.tb ρ K)(u:bg K.nx r.v)(y:kB K.nx r.s)(h:Q ρ r):wG C.tb ρ K Q [r]:=by subst q;exact⟨r,dp.2 rfl,ρ,.rfl,A,⟨be _,D,u,y⟩,h⟩
def HJ{Q:bm->gP->Prop}{l:List (XV×XK)}(A:kB K.nx s)(h:gu C.tb ρ K bg R l)(D:∀ρ' v K',bY K.nx ρ ρ'->R ρ' v->Q ρ' ⟨v,[],s,e,K'⟩):
 wG C.tb ρ K Q (l.map λ p=>⟨p.1,[],s,e,p.2⟩):=by
 obtain⟨u,r,q,ρ',y,h3,F⟩:=h;exact⟨_,eK.2 ⟨r,q,rfl⟩,ρ',y,h3,⟨(u r q).1,(u r q).2.1,(u r q).2.2,A.mono (u r q).1⟩,D ρ' r.1 r.2 y F⟩
def NI{Q:bm->gP->Prop}{p:XV×XK}(y:kB K.nx s)(h:gu C.tb ρ K bg R [p])(A:∀ρ' v K',bY K.nx ρ ρ'->R ρ' v->Q ρ' ⟨v,src,s,e,K'⟩):
 wG C.tb ρ K Q [⟨p.1,src,s,e,p.2⟩]:=by
 obtain⟨F,r,q,ρ',u,h3,D⟩:=h;rw[dp]at q;subst q;have:=F r (dp.2 rfl);exact⟨_,dp.2 rfl,ρ',u,h3,⟨this.1,this.2.1,this.2.2,y.mono this.1⟩,A ρ' r.1 r.2 u D⟩
def E5(Z7:cI)(ρ:bm)(s:XS)(g:Nat)(args:List XV):bm->gP->Prop:=λ ρ' r=>∃d,Z7 g (aE ρ args) ((aX ρ s).cur::(aX ρ s).up)=some (ev ρ' r.v,(aX ρ' r.s).cur::(aX ρ' r.s).up,d)/\r.s.w=(s.w||d)/\r.e=.eP (mZ d)/\r.src=[]
def Hf(P:Program)(C:eL)(Z7:cI)(SI:bm->XK->Prop)(cl:Nat->List XV->XS->XK->Option (List gP)):Prop:=∀{g:Nat} {args:List XV} {s:XS} {K:XK} {l:List gP} {ρ:bm},cl g args s K=some l->cB K->bw C.tb ρ K->SI ρ K->dk K.nx args->kB K.nx s->cy P g=true/\wG C.tb ρ K (E5 Z7 ρ s g args) l
def dv{β:Type}{o:Option α}{f:α->Option β}{b:β}(h:oB o f=some b):∃a,o=some a/\f a=some b:=by
 cases o;.cases h
 rename_i a;exact⟨a,rfl,h⟩
def uP{s:XS}{K:XK}{o:Option XV}(h:tB s K src e o=some l):∃v,o=some v/\l=[⟨v,src,s,e,K⟩]:=by
 cases o;.cases h
 rename_i v;cases h;exact⟨v,rfl,rfl⟩
theorem alD(l:List (Nat×XV)):(oJ ρ l).map (λ p=>(p.1,bD p.2))=oJ ρ (l.map λ p=>(p.1,mA p.2)):=by grind[oJ,List.map_congr_left,qa]
theorem aeZ:∀cs:List XV,mO 1 cs.length ((cs.map mC).map (ev ρ))=(cs.map λ c=>[mC c]).map (aE ρ)
 |[]=>rfl
 |c::cs=>by show[ev ρ (mC c)]::mO 1 cs.length ((cs.map mC).map (ev ρ))=[ev ρ (mC c)]::(cs.map λ c=>[mC c]).map (aE ρ);rw[aeZ cs]
theorem apU(S:List dR)(v:XV):gQ (S.map (aP ρ)) (ev ρ v)=ev ρ (Ac S v):=by
 cases v with
 |ms d k len sz=>
  show(match b7 (S.map (aP ρ)) d k with|some cs=>_|none=>_)=ev ρ (match AM S d k with|some cs=>_|none=>_);rw[RW];cases AM S d k;.rfl
  rename_i cs;simp only[lA];have A:(aE ρ cs).all ae.data=cs.all XV.data:=by grind[dz,all_map,GW]
  have y:(aE ρ cs).length=cs.length:=yX cs;rw[A,y];cases D:cs.all XV.data;.rfl
  cases h:(len*sz==cs.length&&sz==1);.rfl
  simp only;rw[aR]at h;have u:sz=1:=by simpa using h.2
  have q:len*sz=cs.length:=by simpa using h.1
  subst u;rw[xF]at q;subst q;show ae.sl (mO 1 cs.length ((aE ρ cs).map di)) none=.sl (cL ρ (cs.map λ c=>[mC c])) none;grind[dz,KI,ly,aeZ]
 |agg cs=>exact qa (.agg cs)
 |_=>rfl
theorem TI(S:List dR)(l:List XV):(aE ρ l).map (gQ (S.map (aP ρ)))=aE ρ (l.map (Ac S)):=by grind[dz,List.map_congr_left,apU]
theorem avr{S:List dR}(q:kB n s)(e:S=s.cur::s.up){l:List XV}(u:dk n l):dk n (l.map (Ac S)):=λ ρ ρ' h=>by rw[<-TI,<-TI,u ρ ρ' h];have:=q ρ ρ' h;subst e;have A:aP ρ s.cur=aP ρ' s.cur:=dc aq.cur this;have y:s.up.map (aP ρ)=s.up.map (aP ρ'):=dc aq.up this;grind
theorem aal(ht:kI C.tb)(ax:∀t,C.st t=true->P.underlying t=some .string)(aG:Hf P C Z7 SI cl)(hb:cB K)(hk:bw C.tb ρ K)(aC:SI ρ K)(N:jW K.nx T)(S:kB K.nx s){dst:Option Tmp}{c:CO}(h:UG C cl T s K dst c=some l):
 wG C.tb ρ K (λ ρ' r=>aN P gl Z7 (bG ρ T) (aX ρ s) dst c=some ⟨ev ρ' r.v,r.src,aX ρ' r.s,r.e⟩) l:=by
 have G:=hk.z;have L:=hb.z;cases c with
 |mv x=>
  obtain⟨v,hv,h⟩:=dv h;obtain⟨w,hw,rfl⟩:=uP h;cases hw;refine nS rfl hb hk (Tw (iy L N hv)) S ?_;simp only[aN,gn G hv,oB,qa]
 |tk sz x=>
  obtain⟨v,hv,h⟩:=dv h;obtain⟨w,hw,rfl⟩:=uP h;have aa:=iy L N hv;refine nS rfl hb hk (λ ρ ρ' D=>by rw[<-R8 hw,<-R8 hw,aa ρ ρ' D]) S ?_;simp only[aN,gn G hv,oB,R8 hw]
 |pk c a b=>
  obtain⟨vc,au,h⟩:=dv h;obtain⟨va,aw,h⟩:=dv h;obtain⟨vb,av,h⟩:=dv h;obtain⟨bl,ak,h⟩:=dv h;cases h;obtain⟨b0,aJ,h1,r,A,ρ',h2,h3,h4⟩:=ack hb hk (iy L N au) ak;have ba:=iy L N aw;have bb:=iy L N av;have bc:∀x:Bool,bg K.nx (mA (cond x va vb)):=λ x=>by grind[Tw]
  refine⟨_,eK.2 ⟨r,A,rfl⟩,ρ',h2,h3,?_,?_⟩
  .exact⟨(h1 r A).1,(h1 r A).2.1,(bc _).mono (h1 r A).1,S.mono (h1 r A).1⟩
  .have h4:r.1=b0:=h4;simp only[aN,gn G au,gn G aw,gn G av,oB,aJ];rw[<-(bc r.1) ρ ρ' h2,<-S ρ ρ' h2,h4];cases b0 with
   |true=>show some (VR.mk (bD (ev ρ va)) [] (aX ρ s) .pure)=_;rw[qa];rfl
   |false=>show some (VR.mk (bD (ev ρ vb)) [] (aX ρ s) .pure)=_;rw[qa];rfl
 |bl z pl ps=>
  obtain⟨vz,Z,h⟩:=dv h;obtain⟨vl,ab,h⟩:=dv h;obtain⟨cs,aF,h⟩:=dv h;obtain⟨w,hw,rfl⟩:=uP h;cases hw;have u:∀ρ,kY pl (aE ρ vz) ((oJ ρ vl).map λ p=>(p.1,bD p.2))=some (aE ρ cs):=λ ρ=>by grind[alD,dz,Va]
  refine nS rfl hb hk (KN λ ρ ρ' D=>?_) S ?_
  .have F:=u ρ;rw[AD L Z ρ ρ' D,IY L N ab ρ ρ' D,u ρ']at F;grind
  .have F:=u ρ;rw[zS G Z]at F;simp only[aN,JW G ab,oB,F];rfl
 |bt z pl ps=>
  obtain⟨vz,Z,h⟩:=dv h;obtain⟨vl,ab,h⟩:=dv h;obtain⟨cs,aF,h⟩:=dv h;obtain⟨w,hw,rfl⟩:=uP h;cases hw;have u:∀ρ,kY pl (aE ρ vz) (oJ ρ vl)=some (aE ρ cs):=λ ρ=>by grind[dz,Va]
  refine nS rfl hb hk (KN λ ρ ρ' D=>?_) S ?_
  .have F:=u ρ;rw[AD L Z ρ ρ' D,IY L N ab ρ ρ' D,u ρ']at F;grind
  .have F:=u ρ;rw[zS G Z]at F;simp only[aN,JW G ab,oB,F];rfl
 |nl x=>
  obtain⟨v,hv,h⟩:=dv h;obtain⟨w,hw,rfl⟩:=uP h;have aa:=iy L N hv;refine nS rfl hb hk (λ ρ ρ' D=>?_) S ?_
  .have F:=S9 (ρ:=ρ) hw;rw[aa ρ ρ' D,S9 hw]at F;grind
  .simp only[aN,gn G hv,oB,S9 hw,cP]
 |bn op t x y=>
  obtain⟨a,D,h⟩:=dv h;obtain⟨b,J,h⟩:=dv h;unfold uO at h;split at h
  .rename_i l' hl;cases h;refine HJ S (ayw (P:=P) (t:=t) ht.2.2 hb hk (iy L N D) (iy L N J) hl) λ ρ' v K' Y A=>?_
   have A:dn P op t (ev ρ a) (ev ρ b)=some (ev ρ' v):=A;simp only[aN,gn G D,gn G J,oB,A,cP,S ρ ρ' Y]
  .cases h
 |un op x=>
  obtain⟨a,D,h⟩:=dv h;unfold uO at h;split at h
  .rename_i l' hl;cases h;refine HJ S (awb hb hk (iy L N D) hl) λ ρ' v K' Y A=>?_
   have A:vg op (ev ρ a)=some (ev ρ' v):=A;simp only[aN,gn G D,oB,A,cP,S ρ ρ' Y]
  .cases h
 |mn x y=>
  obtain⟨a,D,h⟩:=dv h;obtain⟨b,J,h⟩:=dv h;unfold uO at h;split at h
  .rename_i l' hl;cases h;refine HJ S (auB hb hk (iy L N D) (iy L N J) hl) λ ρ' v K' Y A=>?_
   have A:DM (ev ρ a) (ev ρ b)=some (ev ρ' v):=A;simp only[aN,gn G D,gn G J,oB,A,cP,S ρ ρ' Y]
  .cases h
 |mx x y=>
  obtain⟨a,D,h⟩:=dv h;obtain⟨b,J,h⟩:=dv h;unfold uO at h;split at h
  .rename_i l' hl;cases h;refine HJ S (az1 hb hk (iy L N D) (iy L N J) hl) λ ρ' v K' Y A=>?_
   have A:BJ (ev ρ a) (ev ρ b)=some (ev ρ' v):=A;simp only[aN,gn G D,gn G J,oB,A,cP,S ρ ρ' Y]
  .cases h
 |cv k x=>
  obtain⟨v,hv,h⟩:=dv h;obtain⟨w,hw,rfl⟩:=uP h;obtain⟨e1,e2⟩:=arx hk (iy L N hv) hw;grind[nS,aN,gn,oB]
 |mf f cap=>
  obtain⟨v,hv,h⟩:=dv h;obtain⟨w,hw,rfl⟩:=uP h;cases hw;have aa:=Pw L N hv;refine nS rfl hb hk (ZS λ ρ ρ' D=>?_) S ?_
  .have:=aa ρ ρ' D;grind[dz,TY]
  .simp only[aN,Ru G hv,oB];show some (VR.mk (.fn f ((aE ρ v).map bD)) _ _ _)=some (VR.mk (.fn f (aE ρ (v.map mA))) _ _ _);rw[dz,dz,TY]
 |fa o x=>
  obtain⟨v,hv,h⟩:=dv h;obtain⟨w,hw,rfl⟩:=uP h;have aa:=iy L N hv;refine nS rfl hb hk (λ ρ ρ' D=>?_) S ?_
  .have F:=SO (ρ:=ρ) hw;rw[aa ρ ρ' D,SO hw]at F;grind
  .simp only[aN,gn G hv,oB,SO hw,cP]
 |ia sl ar x ix=>
  obtain⟨a,D,h⟩:=dv h;obtain⟨b,J,h⟩:=dv h;unfold uO at h;split at h
  .rename_i l' hl;cases h;refine HJ S (arh ht hb hk (iy L N D) (iy L N J) hl) λ ρ' v K' Y A=>?_
   have A:mP sl ar (ev ρ a) (ev ρ b)=some (ev ρ' v):=A;simp only[aN,gn G D,gn G J,oB,A,cP,S ρ ρ' Y]
  .cases h
 |ix t x i=>
  obtain⟨a,D,h⟩:=dv h;obtain⟨b,J,h⟩:=dv h;obtain⟨w,hw,rfl⟩:=uP h;obtain⟨e1,e2⟩:=ar6 ax hb hk hw;grind[nS,aN,gn,oB,cP]
 |ex i x=>
  obtain⟨v,hv,h⟩:=dv h;obtain⟨w,hw,rfl⟩:=uP h;have aa:=iy L N hv;refine nS rfl hb hk (λ ρ ρ' D=>?_) S ?_
  .have F:=Tn (ρ:=ρ) hw;rw[aa ρ ρ' D,Tn hw]at F;grind
  .simp only[aN,gn G hv,oB,Tn hw,cP]
 |ln sl t x=>
  obtain⟨a,D,h⟩:=dv h;unfold Mr at h;split at h
  .rename_i v K' hl;cases h;refine NI S (atJ (P:=P) ax hb hk (iy L N D) hl) λ ρ' v K' Y A=>?_
   have A:yc P sl t (ev ρ a)=some (ev ρ' v):=A;simp only[aN,gn G D,oB,A,cP,S ρ ρ' Y]
  .cases h
 |ld tk agg m x=>
  obtain⟨a,D,h⟩:=dv h;obtain⟨r,A,h⟩:=dv h;cases h;have aI:=iy L N D;have u:∀ρ ρ',bY K.nx ρ ρ'->(ev ρ r.1,r.2.1,aX ρ r.2.2)=(ev ρ' r.1,r.2.1,aX ρ' r.2.2):=λ ρ ρ' q=>by have F:=IZ (ρ:=ρ) tk agg m s a A;rw[S ρ ρ' q,aI ρ ρ' q,IZ tk agg m s a A]at F;grind
  refine nS rfl hb hk (λ ρ ρ' q=>(xE (u ρ ρ' q)).1) (λ ρ ρ' q=>(xE (xE (u ρ ρ' q)).2).2) ?_;simp only[aN,gn G D,oB,IZ tk agg m s a A]
 |sx sl str x lo hi=>
  obtain⟨a,D,h⟩:=dv h;obtain⟨vl,ab,h⟩:=dv h;obtain⟨vh,am,h⟩:=dv h;unfold Mr at h;split at h
  .rename_i v K' hl;cases h;refine NI S (ase (str:=str) ht hb hk (iy L N D) (alY L N am) hl) λ ρ' v K' Y A=>?_
   have A:nf sl str (ev ρ a) (vl.map (ev ρ)) (vh.map (ev ρ))=some (ev ρ' v):=A;simp only[aN,gn G D,abw G ab,abw G am,oB,A,S ρ ρ' Y]
  .cases h
 |al z=>
  obtain⟨vz,Z,h⟩:=dv h;cases dst with
  |none=>cases h
  |some k=>
  have h:oB (zM T s k vz) (λ s'=>some [(⟨.ptr s.up.length k 0,[],s',.new true,K⟩:gP)])=some l:=h;obtain⟨s',ac,h⟩:=dv h;cases h;have u:∀ρ,gY (bG ρ T) (aX ρ s) k (aE ρ vz)=some (aX ρ s'):=λ ρ=>by rw[Mt,ac];rfl
  refine nS rfl hb hk (λ _ _ _=>rfl) (λ ρ ρ' q=>?_) ?_
  .have F:=u ρ;rw[N ρ ρ' q,S ρ ρ' q,AD L Z ρ ρ' q,u ρ']at F;grind
  .have F:=u ρ;rw[zS G Z]at F;simp only[aN,oB,F,yA];rfl
 |bx tk x=>
  obtain⟨k,rfl,h⟩:=dv h;obtain⟨v,hv,h⟩:=dv h;have aa:=iy L N hv;split at h
  .cases h
  .rename_i ag;obtain⟨s',ac,h⟩:=dv h;cases h
   have u:∀ρ,gY (bG ρ T) (aX ρ s) k (cond tk (ev ρ v).cells (bD (ev ρ v)).cells)=some (aX ρ s'):=by
    clear hb hk N S G L hv aa ag;intro ρ;cases tk with
    |true=>
     simp only[Nx]at ac⊢;rw[Dk,<-dz,Mt,ac];rfl
    |false=>
     simp only[Nt]at ac⊢;rw[qa,Dk,<-dz,Mt,ac];rfl
   refine nS rfl hb hk (λ _ _ _=>rfl) (λ ρ ρ' q=>?_) ?_
   .have F:=u ρ;rw[N ρ ρ' q,S ρ ρ' q,aa ρ ρ' q,u ρ']at F;grind
   .have F:=u ρ;simp only[aN,oB,gn G hv,Uv,ag,yA];cases tk with
    |true=>simp only[Nx]at F⊢;rw[F];rfl
    |false=>simp only[Nt]at F⊢;rw[F];rfl
 |bs sz z m ps=>
  obtain⟨vz,Z,h⟩:=dv h;obtain⟨vl,ab,h⟩:=dv h;obtain⟨es,aD,h⟩:=dv h;cases h
  have u:∀ρ,mM sz (List.replicate m (aE ρ vz)) (oJ ρ vl)=some (cL ρ es):=λ ρ=>by
   have e:List.replicate m (aE ρ vz)=cL ρ (List.replicate m vz):=by rw[ly,List.map_replicate]
   rw[e,WX,aD];rfl
  refine nS rfl hb hk (λ ρ ρ' q=>?_) S ?_
  .have F:=u ρ;rw[AD L Z ρ ρ' q,IY L N ab ρ ρ' q,u ρ']at F;show ae.sl _ _=.sl _ _;rw[dU F]
  .have F:=u ρ;rw[zS G Z]at F;simp only[aN,JW G ab,oB,F];rfl
 |mk z lo c=>
  obtain⟨vz,Z,h⟩:=dv h;cases dst with
  |none=>cases h
  |some k=>
  have h:oB (fC T lo) (λ a=>oB (fC T c) λ b=>match a,b with
   |.int .i64 0 (.ofNat n),.int .i64 0 (.ofNat m)=>if n=m/\n<=1000 then oB (zM T s k (List.replicate n vz).flatten) λ s'=>some [(⟨.ms s.up.length k n 1,[],s',.new true,K⟩:gP)]else none
   |_,_=>none)=some l:=h
  obtain⟨a,D,h⟩:=dv h;obtain⟨b,J,h⟩:=dv h;split at h
  .rename_i nn mm xx;split at h
   .rename_i hc;obtain⟨s',ac,h⟩:=dv h;cases h
    have u:∀ρ,gY (bG ρ T) (aX ρ s) k (List.replicate nn (aE ρ vz)).flatten=some (aX ρ s'):=λ ρ=>by
     have e:(List.replicate nn (aE ρ vz)).flatten=aE ρ (List.replicate nn vz).flatten:=by grind[dz,List.map_replicate]
     rw[e,Mt,ac];rfl
    refine nS rfl hb hk (λ _ _ _=>rfl) (λ ρ ρ' q=>?_) ?_
    .have F:=u ρ;rw[N ρ ρ' q,S ρ ρ' q,AD L Z ρ ρ' q,u ρ']at F;grind
    .have F:=u ρ;rw[zS G Z]at F;have h0:(ρ 0).i=0:=by rw[G];rfl
     have e1:ev ρ (.int .i64 0 (Int.ofNat nn))=.sc (.int .i64 (.ofNat nn)):=by show ae.sc (.int .i64 ((ρ 0).i+Int.ofNat nn))=_;rw[h0,xD]
     have e2:ev ρ (.int .i64 0 (Int.ofNat mm))=.sc (.int .i64 (.ofNat mm)):=by grind
     simp only[aN,oB,gn G D,gn G J,e1,e2,yA];rw[ao ⟨hc.1,by omega⟩,F];rfl
   .cases h
  .cases h
 |st m x v=>
  obtain⟨a,D,h⟩:=dv h;obtain⟨b,J,h⟩:=dv h;obtain⟨r,A,h⟩:=dv h;cases h;have ba:=iy L N D;have bb:=iy L N J;refine nS rfl hb hk (λ _ _ _=>rfl) (λ ρ ρ' q=>?_) ?_
  .have F:=Sw (ρ:=ρ) s m a b A;rw[S ρ ρ' q,ba ρ ρ' q,bb ρ ρ' q,Sw s m a b A]at F;grind
  .simp only[aN,oB,gn G D,gn G J,Sw s m a b A];rfl
 |cl f args=>
  obtain⟨vf,an,h⟩:=dv h;obtain⟨la,az,h⟩:=dv h;split at h
  .rename_i g cap xx;have aH:=iy L N an;have ak:=Pw L N az;have aA:dk K.nx cap:=λ ρ ρ' q=>by have:=aH ρ ρ' q;grind[ev]
   have aB:dk K.nx (la++cap):=λ ρ ρ' q=>by have F:=ak ρ ρ' q;have k2:=aA ρ ρ' q;grind[dz]
   unfold aih at h;split at h
   .cases h
   .rename_i ai;split at h
    .rename_i aQ aj;split at h
     .cases h
     .rename_i ah;cases h;obtain⟨hq,r,A,ρ',h2,h3,h1,d,e1,e2,e3,e4⟩:=aG aj hb hk aC (avr S rfl aB) S;refine⟨r,A,ρ',h2,h3,h1,?_⟩;have aO:(aX ρ s).cur::(aX ρ s).up=(s.cur::s.up).map (aP ρ):=rfl;have ad:(aE ρ la++aE ρ cap).map (gQ ((aX ρ s).cur::(aX ρ s).up))=aE ρ ((la++cap).map (Ac (s.cur::s.up))):=by grind[TI,dz]
      have aL:(aE ρ la++aE ρ cap).any ae.fY=(la++cap).any XV.fY:=by rw[dz,dz,<-mT];exact any_map (λ a=>avA a) _
      have aK:(aE ρ ((la++cap).map (Ac (s.cur::s.up)))).any ae.open=((la++cap).map (Ac (s.cur::s.up))).any XV.open:=by rw[dz];exact any_map (λ a=>Q1 a) _
      have af:((aE ρ la++aE ρ cap).any ae.fY&&(!(wx (ev ρ' r.v))||((aE ρ la++aE ρ cap).map (gQ ((aX ρ s).cur::(aX ρ s).up))).any ae.open))=false:=by
       rw[ad,aL,aK];cases hm:(la++cap).any XV.fY with
       |false=>rfl
       |true=>
        rw[hm]at ai ah;simp only[BF,Bool.not_eq_false']at ai ah;have ay:=ij.1 ah r A;have:wx (ev ρ' r.v)=true:=by cases hv:r.v<;>rw[hv]at ay<;>first|rfl|cases ay
        rw[this,ai];rfl
      show Dt P gl Z7 (bG ρ T) (aX ρ s) f args=_;unfold Dt;rw[gn G an,Ru G az];rw[show ev ρ (.fn g cap)=.fn g (aE ρ cap)from rfl];rw[ad]at af;simp only[hq,ad,e1,af,e3,e4]
      congr 2
      show aq.mk (s.w||d) _ _=aq.mk _ _ _;rw[e2];rfl
    .cases h
  .cases h
 |ap sz x y=>
  obtain⟨a,D,h⟩:=dv h;obtain⟨b,J,h⟩:=dv h;obtain⟨r,A,h⟩:=dv h;cases h;refine NI S (ayF (s0:=aX ρ s) ht hb hk (iy L N D) (iy L N J) A) λ ρ' v K' Y A=>?_
  have A:iG (aX ρ s) sz (ev ρ a) (ev ρ b)=some (ev ρ' v):=A;simp only[aN,gn G D,gn G J,oB,A];rw[S ρ ρ' Y]
end
section
variable{bef:List (List Nat)}
variable{ρ ρ':bm}{C:eL}{K K':XK}{P:Program}{gl:aM}{Z7:cI}{T:XT}{s:XS}{n:Nat}
structure lC (tb:js) (ρ:bm) (a:XA):Prop where
 b:cB a.k
 k:bw tb ρ a.k
 T:jW a.k.nx a.T
 s:kB a.k.nx a.s
def Ds{α:Type}(tb:js)(ρ:bm)(K:XK)(Q:bm->α->XA->Prop)(l:List (α×XA)):Prop:=∃r∈l,∃ρ',bY K.nx ρ ρ'/\K.nx<=r.2.k.nx/\lC tb ρ' r.2/\Q ρ' r.1 r.2
def sT{β:Type}{f:α->Option (List β)}:∀{l:List α} {r:List β},nv f l=some r->∀a∈l,∃x,f a=some x/\∀y∈x,y∈r
 |[],r,h,a,q=>by cases q
 |b::l,r,h,a,q=>by
  unfold nv at h;split at h
  .rename_i x y D A;cases h;rcases ck.1 q with rfl|q
   .exact⟨x,D,λ z u=>Ej _ u⟩
   obtain⟨x',G,F⟩:=sT A a q;exact⟨x',G,λ z u=>ND _ (F z u)⟩
  cases h
def YI(A:cB K)(y:bw C.tb ρ K)(F:jW K.nx T){g:Option (Tmp×Bool)}{gs:List (Bool×XK)}(h:Lw K T g=some gs):∃b,oT (bG ρ T) g=some b/\gu C.tb ρ K yU (λ _ x=>x=b) gs:=by
 cases g;.cases h;exact⟨true,rfl,iI A trivial y rfl⟩
 rename_i p;obtain⟨t,want⟩:=p;unfold Lw at h;simp only at h;unfold oT;simp only[Ef];have u:=VZ F t;split at h;.rename_i b q;cases h;rw[q];exact⟨_,rfl,iI A trivial y rfl⟩
 .rename_i q;cases h;rw[q];exact⟨_,rfl,iI A trivial y rfl⟩
 .rename_i x q;cases h;rw[q]at u⊢;exact⟨_,rfl,(JK A y u.bs).map (λ x=>x==want) (λ _ _ _=>trivial) λ ρ' a D=>by subst D;rfl⟩
 cases h
def S7(ht:kI C.tb)(N:∀t,C.st t=true->P.underlying t=some .string)(Z:Hf P C Z7 SI cl)(D:∀{ρ ρ':bm} {K K':XK},SI ρ K->bY K.nx ρ ρ'->K.nx<=K'.nx->SI ρ' K'):∀{l:List CE} {a:XA} {r:List XA} {ρ:bm},lC C.tb ρ a->SI ρ a.k->EO C cl n l a=some r->
 ∃b∈r,∃ρ',bY a.k.nx ρ ρ'/\a.k.nx<=b.k.nx/\lC C.tb ρ' b/\mJ P gl Z7 n l (bG ρ a.T) (aX ρ a.s)=some (bG ρ' b.T,aX ρ' b.s)
 |[],a,r,ρ,A,F,h=>by cases h;exact⟨a,dp.2 rfl,ρ,.rfl,be _,A,rfl⟩
 |e::l,a,r,ρ,A,F,h=>by
  unfold EO at h;split at h;.cases h
  rename_i gs af;obtain⟨b0,ab,h1,g,aa,q,h2,h3,h4⟩:=YI A.b A.k A.T af;obtain⟨x,hx,G⟩:=sT h g aa;have h4:g.1=b0:=h4;obtain⟨u,g2,_⟩:=h1 g aa;have eT:bG ρ a.T=bG q a.T:=A.T ρ q h2;have eS:aX ρ a.s=aX q a.s:=A.s ρ q h2;split at hx
  .rename_i S;rw[S]at h4;subst h4;split at hx;.rename_i rs ac;obtain⟨r1,ad,J,k1,k2,⟨k3,k4,k5,k6⟩,k7⟩:=aal (gl:=gl) ht N Z g2 h3 (D F h2 u) (A.T.mono u) (A.s.mono u) ac;obtain⟨y,hy,L⟩:=sT hx r1 ad;have Y:lC C.tb J ⟨s6 n (yi r1.src a.T) e.d r1.v,r1.s,r1.k⟩:=⟨k4,k2,Mf (adv (A.T.mono (fX u k3)) _) k5,k6⟩;obtain⟨b,hb,ρ3,m1,m2,m3,m4⟩:=S7 ht N Z D Y (D (D F h2 u) k1 k3) hy;refine⟨b,G b (L b hb),ρ3,(h2.trans k1 u).trans m1 (fX u k3),fX (fX u k3) m2,m3,?_⟩;have ag:bG q a.T=bG J a.T:=(A.T.mono u) q J k1;unfold mJ;rw[ab,eT,eS];simp only[k7];rw[ag,CL,C7];exact m4
   cases hx
  rename_i S;rw[S]at h4;subst h4;have Y:lC C.tb q ⟨s6 n a.T e.d .un,a.s,g.2⟩:=⟨g2,h3,Mf (A.T.mono u) (λ _ _ _=>rfl),A.s.mono u⟩;obtain⟨b,hb,ρ3,m1,m2,m3,m4⟩:=S7 ht N Z D Y (D F h2 u) hx;refine⟨b,G b hb,ρ3,h2.trans m1 u,fX u m2,m3,?_⟩;unfold mJ;rw[ab,eT,eS];simp only;rw[show ae.un=ev q .un from rfl,C7];exact m4
def U1(ht:kI C.tb)(N:∀t,C.st t=true->P.underlying t=some .string)(aa:Hf P C Z7 SI cl)(D:∀{ρ ρ':bm} {K K':XK},SI ρ K->bY K.nx ρ ρ'->K.nx<=K'.nx->SI ρ' K'):∀{l:List CE} {i:Nat} {Z:cR} {a:XA} {r:List (cR×XA)} {ρ:bm},lC C.tb ρ a->SI ρ a.k->Hm C cl n bef l i Z a=some r->
 Ds C.tb ρ a.k (λ ρ' Z' b=>jP P gl Z7 n bef l i Z (bG ρ a.T) (aX ρ a.s)=some (Z',bG ρ' b.T,aX ρ' b.s)) r
 |[],i,Z,a,r,ρ,A,F,h=>by cases h;exact⟨(Z,a),dp.2 rfl,ρ,.rfl,be _,A,rfl⟩
 |e::l,i,Z,a,r,ρ,A,F,h=>by
  unfold Hm at h;split at h;.cases h
  rename_i gs ag;obtain⟨b0,ac,h1,g,ab,q,h2,h3,h4⟩:=YI A.b A.k A.T ag;obtain⟨x,hx,G⟩:=sT h g ab;have h4:g.1=b0:=h4;obtain⟨u,g2,_⟩:=h1 g ab;have eT:bG ρ a.T=bG q a.T:=A.T ρ q h2;have eS:aX ρ a.s=aX q a.s:=A.s ρ q h2;split at hx
  .rename_i S;rw[S]at h4;subst h4;split at hx
   .rename_i rs ad;obtain⟨r1,af,J,k1,k2,⟨k3,k4,k5,k6⟩,k7⟩:=aal (gl:=gl) ht N aa g2 h3 (D F h2 u) (A.T.mono u) (A.s.mono u) ad;obtain⟨y,hy,L⟩:=sT hx r1 af;split at hy;.rename_i Z' hZ;have Y:lC C.tb J ⟨s6 n (yi r1.src a.T) e.d r1.v,r1.s,r1.k⟩:=⟨k4,k2,Mf (adv (A.T.mono (fX u k3)) _) k5,k6⟩;obtain⟨b,hb,ρ3,m1,m2,m3,m4⟩:=U1 ht N aa D Y (D (D F h2 u) k1 k3) hy;refine⟨b,G b (L b hb),ρ3,(h2.trans k1 u).trans m1 (fX u k3),fX (fX u k3) m2,m3,?_⟩;have ah:bG q a.T=bG J a.T:=(A.T.mono u) q J k1;unfold jP;rw[ac,eT,eS];simp only[k7,hZ];rw[ah,CL,C7];exact m4
    cases hy
   cases hx
  rename_i S;rw[S]at h4;subst h4;have Y:lC C.tb q ⟨s6 n a.T e.d .un,a.s,g.2⟩:=⟨g2,h3,Mf (A.T.mono u) (λ _ _ _=>rfl),A.s.mono u⟩;obtain⟨b,hb,ρ3,m1,m2,m3,m4⟩:=U1 ht N aa D Y (D F h2 u) hx;refine⟨b,G b hb,ρ3,h2.trans m1 u,fX u m2,m3,?_⟩;unfold jP;rw[ac,eT,eS];simp only;rw[show ae.un=ev q .un from rfl,C7];exact m4
def ajx(J:kI C.tb)(u:∀t,C.st t=true->P.underlying t=some .string)(D:Hf P C Z7 SI cl)(F:∀{ρ ρ':bm} {K K':XK},SI ρ K->bY K.nx ρ ρ'->K.nx<=K'.nx->SI ρ' K'){l:List CE}{r:List XA}{ρ:bm}(N:lC C.tb ρ a)(y:SI ρ a.k)(h:P5 C cl n l bef a=some r):
 ∃b∈r,∃ρ',bY a.k.nx ρ ρ'/\a.k.nx<=b.k.nx/\lC C.tb ρ' b/\uf P gl Z7 n l bef (bG ρ a.T) (aX ρ a.s)=some (bG ρ' b.T,aX ρ' b.s):=by
 unfold P5 at h;split at h
 .rename_i rs A;split at h;.rename_i q;cases h;obtain⟨b,G,ρ',Z,Y,h3,S⟩:=U1 (gl:=gl) J u D F N y A;refine⟨b.2,eK.2 ⟨b,G,rfl⟩,ρ',Z,Y,h3,?_⟩;unfold uf;rw[S];have L:=ij.1 q b G;simp only[tQ,L];rfl
  cases h
 .cases h
theorem Nl(h:bg n v)(q:bY n ρ ρ'):jO ρ (some v)=jO ρ' (some v):=by
 cases v with
 |int k y d=>show SV.mk _ _ _ _=SV.mk _ _ _ _;rw[q y h.int]
 |sl y o=>exact q y h.sl
 |bs y=>exact q y h.bs
 |ss y=>exact q y h.ss
 |sx es o=>
  have:=h ρ ρ' q;simp only[ev,ae.sl.injEq,rO]at this;show SV.mk _ _ _ _=SV.mk _ _ _ _;rw[this]
 |sc a=>cases a<;>rfl
 |_=>rfl
def Jf(n:Nat)(o:Option XV):Prop:=∀v,o=some v->bg n v
def eY.mem{E:bk}(h:eY n E):∀o∈E,Jf n o:=λ o u v q=>by obtain⟨i,hi⟩:=VD u;subst q;exact h i v hi
def ag7{o:Option XV}(h:Jf n o)(q:bY n ρ ρ'):jO ρ o=jO ρ' o:=by
 cases o;.rfl
 rename_i v;exact Nl (h v rfl) q
def Mm:∀{E:bk} {nx:Nat} {ρ:bm},0<nx->(∀o∈E,Jf nx o)->∃h,bY nx ρ h/\nx<=(cH E nx).2/\fp (cH E nx).2 (cH E nx).1/\(cH E nx).1.map (dS h)=E.map (jO ρ)
 |[],nx,ρ,hn,Y=>⟨ρ,.rfl,be _,(λ e N=>absurd N lB),rfl⟩
 |o::E,nx,ρ,hn,Y=>by
  have D:∀o∈E,Jf nx o:=λ J A=>Y J (cz _ A)
  have A:=Y o cS
  have q:∀G:SE,(match G with|.i y _=>y<nx|.s y=>y<nx)->(∀ρ,dS ρ G=jO ρ o)->cH (o::E) nx=(G::(cH E nx).1,(cH E nx).2)->
   ∃h,bY nx ρ h/\nx<=(cH (o::E) nx).2/\fp (cH (o::E) nx).2 (cH (o::E) nx).1/\(cH (o::E) nx).1.map (dS h)=(o::E).map (jO ρ):=by
   intro G L hp N;obtain⟨h,S,F,h3,Z⟩:=Mm (ρ:=ρ) hn D;rw[N];refine⟨h,S,F,fp.cons ?_ h3,?_⟩
   .cases G with
    |i y d=>exact dF L F
    |s y=>exact dF L F
   .rw[fL,fL,Z,hp,ag7 A S]
  have fresh:cH (o::E) nx=(.s nx::(cH E (nx+1)).1,(cH E (nx+1)).2)->
   ∃h,bY nx ρ h/\nx<=(cH (o::E) nx).2/\fp (cH (o::E) nx).2 (cH (o::E) nx).1/\(cH (o::E) nx).1.map (dS h)=(o::E).map (jO ρ):=by
   intro N
   let ρ0:bm:=λ y=>if y=nx then jO ρ o else ρ y
   have ag:bY nx ρ ρ0:=λ y hy=>by show _=if y=nx then _ else _;rw[aj (by omega)]
   obtain⟨h,S,F,h3,Z⟩:=Mm (ρ:=ρ0) (BH nx) λ J u v hv=>(D J u v hv).mono (jl nx)
   rw[N];refine⟨h,ag.trans S (jl _),Nat.le_of_succ_le F,fp.cons (s:=.s nx) (dF (iW nx) F) h3,?_⟩;rw[fL,fL,Z];have e1:dS h (.s nx)=jO ρ o:=by show h nx=_;rw[<-S nx (iW nx)];show(if nx=nx then _ else _)=_;rw[ao rfl]
   rw[e1]
   congr 1
   exact kX λ J u=>(ag7 (D J u) ag).symm
  cases o;.exact fresh rfl
  rename_i v;cases v with
  |int k y d=>exact q (.i y d) (A _ rfl).int (λ _=>rfl) rfl
  |sl y oo=>exact q (.s y) (A _ rfl).sl (λ _=>rfl) rfl
  |bs y=>exact q (.s y) (A _ rfl).bs (λ _=>rfl) rfl
  |ss y=>exact q (.s y) (A _ rfl).ss (λ _=>rfl) rfl
  |_=>exact fresh rfl
def XG(σ:Sub):pull ρ σ=aQ (σ.map (dS ρ)):=rfl
mutual
theorem ad0:∀{v w:XV},nP v w=true->ev ρ v=ev ρ w:=by
 intro v w h;cases v<;>cases w<;>first|(simp[nP]at h;done)|skip
 .simp only[nP]at h;rw[ag3 h]
 .simp only[nP,aR]at h;rw[jk h.1.1,cU h.1.2,jk h.2]
 .simp only[nP]at h;rw[cU h]
 .simp only[nP]at h;rw[cU h]
 .simp only[nP,aR]at h;rw[cU h.1,jk h.2]
 .simp only[nP,aR]at h;rw[jk h.2];show ae.sl _ _=.sl _ _;rw[aeO h.1]
 .simp only[nP,aR]at h;rw[cU h.1.1,cU h.1.2,cU h.2]
 .simp only[nP,aR]at h;rw[cU h.2];show ae.rp _ _=.rp _ _;rw[yZ h.1]
 .simp only[nP,aR]at h;rw[cU h.1.1.1,cU h.1.1.2,cU h.1.2,cU h.2]
 .simp only[nP,aR]at h;rw[cU h.1];show ae.fn _ _=.fn _ _;rw[yZ h.2]
 .simp only[nP]at h;show ae.agg _=.agg _;rw[yZ h]
 .simp only[nP]at h;show ae.aL _=.aL _;rw[yZ h]
 rfl
theorem yZ:∀{v w:List XV},rY v w=true->aE ρ v=aE ρ w
 |[],[],_=>rfl
 |v::l,w::r,h=>by simp only[rY,aR]at h;show ev ρ v::aE ρ l=ev ρ w::aE ρ r;rw[ad0 h.1,yZ h.2]
 |[],_::_,h=>by simp[rY]at h
 |_::_,[],h=>by simp[rY]at h
theorem aeO:∀{v w:List (List XV)},CG v w=true->cL ρ v=cL ρ w
 |[],[],_=>rfl
 |v::l,w::r,h=>by simp only[CG,aR]at h;show aE ρ v::cL ρ l=aE ρ w::cL ρ r;rw[yZ h.1,aeO h.2]
 |[],_::_,h=>by simp[CG]at h
 |_::_,[],h=>by simp[CG]at h
end
end
section
variable{ch:List (Nat×XV)}{r:bm}
variable{ρ ρ':bm}{C:eL}{K K':XK}{P:Program}{gl:aM}{Z7:cI}{T:XT}{s:XS}{n:Nat}
def qE(ρ r:bm)(ch:List (Nat×XV))(T:XT):VT:=T.map λ p=>(p.1,match lk ch p.1 with|some q=>ev r q|none=>ev ρ p.2)
def lF(ρ r:bm)(ch:List (Nat×List XV))(F:dR):bI:=F.map λ p=>(p.1,match lk ch p.1 with|some q=>aE r q|none=>aE ρ p.2)
def ny(ρ r:bm)(U:List (Nat×List (Nat×List XV))):List dR->List bI
 |[]=>[]
 |F::S=>lF ρ r (qU U S.length) F::ny ρ r U S
def J0(ρ r:bm)(I:Inv)(w:Bool)(s:XS):aq:=⟨w,lF ρ r I.B s.cur,ny ρ r I.U s.up⟩
def Ze(σ:Sub)(U:List (Nat×List (Nat×List XV))):∀S:List dR,(mj σ U S).length=S.length
 |[]=>rfl
 |F::S=>by show(mj σ U S).length+1=S.length+1;rw[Ze σ U S]
theorem Zf(h0:ρ 0=SV.z)(σ:Sub)(ch:List (Nat×XV)):∀T:XT,bG ρ (tE σ ch T)=qE ρ (pull ρ σ) ch T
 |[]=>rfl
 |(i,v)::T=>by show(i,ev ρ (match lk ch i with|some p=>oD σ p|none=>v))::bG ρ (tE σ ch T)=(i,match lk ch i with|some q=>ev (pull ρ σ) q|none=>ev ρ v)::qE ρ (pull ρ σ) ch T;rw[Zf h0 σ ch T];grind[HT]
theorem O1(h0:ρ 0=SV.z)(σ:Sub)(ch:List (Nat×List XV)):∀T:dR,aP ρ (kZ σ ch T)=lF ρ (pull ρ σ) ch T
 |[]=>rfl
 |(i,v)::T=>by show(i,aE ρ (match lk ch i with|some p=>gp σ p|none=>v))::aP ρ (kZ σ ch T)=(i,match lk ch i with|some q=>aE (pull ρ σ) q|none=>aE ρ v)::lF ρ (pull ρ σ) ch T;rw[O1 h0 σ ch T];grind[wP]
theorem ae2(h0:ρ 0=SV.z)(σ:Sub)(U:List (Nat×List (Nat×List XV))):∀S:List dR,(mj σ U S).map (aP ρ)=ny ρ (pull ρ σ) U S
 |[]=>rfl
 |F::S=>by show aP ρ (kZ σ (qU U S.length) F)::(mj σ U S).map (aP ρ)=lF ρ (pull ρ σ) (qU U S.length) F::ny ρ (pull ρ σ) U S;rw[O1 h0,ae2 h0 σ U S]
theorem PB(G:bw C.tb ρ K):∀{T H:XT} {E F:bk},eY K.nx E->(∀p∈T,bg K.nx p.2)->FG K ch T H E=some F->lV C.tb ρ K.nx E F λ r=>bG ρ T=qE ρ r ch H
 |[],[],E,F,D,J,h=>by cases h;exact⟨.rfl,D,λ _ _=>rfl⟩
 |(i,v)::T,(j,w)::H,E,F,D,J,h=>by
  unfold FG at h;split at h
  .rename_i u;have u:=cU u;subst u;have y:∀p∈T,bg K.nx p.2:=λ p A=>J p (cz _ A)
   split at h
   .rename_i p A;split at h;.rename_i Z S;obtain⟨a1,a2,a3⟩:=F9 G D (J _ cS) S;obtain⟨b1,b2,b3⟩:=PB G a2 y h;refine⟨a1.trans b1,b2,λ N L=>?_⟩;show(i,ev ρ v)::bG ρ T=(i,match lk ch i with|some q=>ev _ q|none=>ev ρ w)::qE ρ _ ch H;rw[A];simp only;rw[a3 N (b1.trans L),b3 N L]
    cases h
   rename_i A;split at h;.rename_i Y;obtain⟨b1,b2,b3⟩:=PB G D y h;grind[bG,qE,ad0]
   cases h
  cases h
 |[],_::_,_,_,_,_,h=>by cases h
 |_::_,[],_,_,_,_,h=>by cases h
theorem Jb(G:bw C.tb ρ K){ch:List (Nat×List XV)}:∀{T H:dR} {E F:bk},eY K.nx E->(∀p∈T,dk K.nx p.2)->CJ K ch T H E=some F->lV C.tb ρ K.nx E F λ r=>aP ρ T=lF ρ r ch H
 |[],[],E,F,D,J,h=>by cases h;exact⟨.rfl,D,λ _ _=>rfl⟩
 |(i,v)::T,(j,w)::H,E,F,D,J,h=>by
  unfold CJ at h;split at h
  .rename_i u;have u:=cU u;subst u;have y:∀p∈T,dk K.nx p.2:=λ p A=>J p (cz _ A)
   split at h
   .rename_i p A;split at h;.rename_i Z S;obtain⟨a1,a2,a3⟩:=Bt G D (J _ cS) S;obtain⟨b1,b2,b3⟩:=Jb G a2 y h;refine⟨a1.trans b1,b2,λ N L=>?_⟩;show(i,aE ρ v)::aP ρ T=(i,match lk ch i with|some q=>aE _ q|none=>aE ρ w)::lF ρ _ ch H;rw[A];simp only;rw[a3 N (b1.trans L),b3 N L]
    cases h
   rename_i A;split at h;.rename_i Y;obtain⟨b1,b2,b3⟩:=Jb G D y h;grind[aP,lF,yZ]
   cases h
  cases h
 |[],_::_,_,_,_,_,h=>by cases h
 |_::_,[],_,_,_,_,h=>by cases h
theorem Zx(D:bw C.tb ρ K):∀{S H:List dR} {E q:bk},eY K.nx E->(∀F∈S,∀p∈F,dk K.nx p.2)->Jc K U S H E=some q->S.length=H.length/\lV C.tb ρ K.nx E q λ r=>S.map (aP ρ)=ny ρ r U H
 |[],[],E,q,A,y,h=>by cases h;exact⟨rfl,.rfl,A,λ _ _=>rfl⟩
 |F::S,G::R,E,q,A,y,h=>by
  unfold Jc at h;split at h
  .rename_i u;have u:=cU u;split at h;.rename_i E1 Y;obtain⟨a1,a2,a3⟩:=Jb D A (y F cS) Y;obtain⟨b0,b1,b2,b3⟩:=Zx D a2 (λ Z N=>y Z (cz _ N)) h;refine⟨by grind,a1.trans b1,b2,λ L J=>?_⟩;show aP ρ F::S.map (aP ρ)=lF ρ _ (qU U R.length) G::ny ρ _ U R;rw[a3 L (b1.trans J),b3 L J,u]
   cases h
  cases h
 |[],_::_,_,_,_,_,h=>by cases h
 |_::_,[],_,_,_,_,h=>by cases h
theorem aaT(y:kI C.tb)(D:cB K)(A:bw C.tb ρ K):∀{fs:List (List cq)} {E q:bk},eY K.nx E->Iv C K E fs=some q->kG E q/\eY K.nx q/\∃l∈fs,∀F,kG q F->∀f∈l,dL C.tb (cg ρ F) f
 |[],E,q,u,h=>by cases h
 |l::fs,E,q,u,h=>by
  unfold Iv at h;split at h;.rename_i L G;cases h;obtain⟨a1,a2,a3⟩:=(zA y cF).fs D A u G;grind[List.mem_cons_self]
  obtain⟨a1,a2,l',J,a3⟩:=aaT y D A u h;grind
theorem Mh{T:XT}(h:jW n T):∀p∈T,bg n p.2:=λ p q ρ ρ' u=>by have:=h ρ ρ' u;have:=Er.1 this p q;grind
theorem Hu(h:kB n s):∀p∈s.cur,dk n p.2:=λ p q ρ ρ' u=>by have:=dc aq.cur (h ρ ρ' u);have:=Er.1 (show s.cur.map _=s.cur.map _ from this) p q;grind
theorem auF(q:cB K)(u:∀v∈refs,bg K.nx v):eY K.nx (some (.int .i64 0 0)::List.replicate I.k none++refs.map some):=by
 intro x v h;have:=jm h;rcases jA.1 this with hm|hm
 .rcases ck.1 hm with hm|hm
  .cases hm;exact eD q.z
  grind
 grind
def CM(ρ:bm)(I:Inv)(refs:List XV)(r:bm):Prop:=∃h:List SV,h.length=I.k/\r=aQ (SV.z::h++refs.map λ v=>jO ρ (some v))
theorem aua(A:bw C.tb ρ K){E:bk}(q:kG (some (.int .i64 0 0)::List.replicate I.k none++refs.map some) E):CM ρ I refs (cg ρ E):=by
 have u:E.length=1+I.k+refs.length:=by rw[<-q.1,dM,cD,om,aF];omega
 refine⟨((E.drop 1).take I.k).map (jO ρ),by grind,?_⟩;unfold cg
 congr 1
 have h0:E.take 1=[some (.int .i64 0 0)]:=by
  have:E[0]? =some (some (.int .i64 0 0)):=q.2 0 _ rfl;cases E;.simp at this
  rename_i o E;simp at this;subst this;rfl
 have D:E.drop (1+I.k)=refs.map some:=by
  refine xr λ x=>?_
  rw[zF];by_cases G:x<refs.length
  .have h:(refs.map some)[x]? =some (some refs[x]):=by grind
   rw[h];refine q.2 _ _ ?_;grind
  grind
 have y:jO ρ (some (.int .i64 0 0))=SV.z:=by show SV.mk _ _ _ _=_;rw[A.z];rfl
 have F:E=E.take 1++((E.drop 1).take I.k++E.drop (1+I.k)):=by grind[List.take_append_drop]
 conv=>lhs;rw[F]
 rw[h0,D,mT,mT,fL,y,ko];rfl
theorem aqF(y:∀v∈refs,bg n v)(A:bY n ρ ρ')(h:CM ρ' I refs r):CM ρ I refs r:=by obtain⟨q,u,D⟩:=h;refine⟨q,u,?_⟩;grind[List.map_congr_left,Nl]
theorem ay4(J:jW n T)(G:kB n s)(A:cB K)(N:K.nx=n){r:Cf}(h:uv T s K r=some v):bg n v:=by
 subst N
 have box:∀{k o:Nat} {cs:List XV} {w:XV},lk s.cur k=some cs->cs[o]? =some w->bg K.nx w:=by
  intro k o cs w L S
  have u:dk K.nx cs:=λ ρ ρ' D=>by
   have Z:lk (aP ρ s.cur) k=some (aE ρ cs):=by rw[DE,L];rfl
   have q:lk (aP ρ' s.cur) k=some (aE ρ' cs):=by rw[DE,L];rfl
   have y:aP ρ s.cur=aP ρ' s.cur:=dc aq.cur (G ρ ρ' D);grind
  exact u.mem (jm S)
 cases r with
 |t i=>
  simp only[uv]at h;split at h;.rename_i e;cases h;exact eD (ahX J e).int
  cases h
 |l i=>
  simp only[uv]at h;split at h
  .rename_i e;split at h;.rename_i q;cases h;exact eD (A.fs _ (qm q)).2.1
   cases h
  .cases h;exact eD A.z
  cases h
 |b k o=>
  simp only[uv]at h;split at h
  .rename_i cs e;split at h;.rename_i q;cases h;exact eD (box e q).int
   cases h
  cases h
 |bl k o=>
  simp only[uv]at h;split at h
  .rename_i cs e;split at h
   .rename_i q;split at h;.rename_i y;cases h;exact eD (A.fs _ (qm y)).2.1
    cases h
   .cases h;exact eD A.z
   cases h
  cases h
 |s i=>
  simp only[uv]at h;split at h;.rename_i e;cases h;exact sP (ahX J e).sl
  .grind[GL]
  cases h
 |sb k o=>
  simp only[uv]at h;split at h
  .rename_i cs e;split at h;.rename_i q;cases h;exact sP (box e q).sl
   .grind[GL]
   cases h
  cases h
 |ul j k o=>
  simp only[uv]at h;split at h
  .split at h
   .split at h
    .split at h;.rename_i y;cases h;exact eD (A.fs _ (qm y)).2.1
     cases h
    cases h
   cases h
  cases h
 |us j k o=>
  simp only[uv]at h;split at h
  .rename_i F Y;split at h
   .rename_i cs e;split at h
    .rename_i x o' q;cases h
     have u:dk K.nx cs:=λ ρ ρ' D=>by
      have y:s.up.map (aP ρ)=s.up.map (aP ρ'):=dc aq.up (G ρ ρ' D);have e4:aP ρ F=aP ρ' F:=Er.1 y F (jm Y);have Z:lk (aP ρ F) k=some (aE ρ cs):=by rw[DE,e];rfl
      grind[DE]
     exact sP (u.mem (jm q)).sl
    cases h
   cases h
  cases h
def aeF(D:jW n T)(u:kB n s)(A:cB K)(y:K.nx=n):∀{l:List Cf} {v:List XV},MJ T s K l=some v->∀w∈v,bg n w
 |[],v,h,w,hw=>by cases h;cases hw
 |r::l,v,h,w,hw=>by
  unfold MJ at h;split at h
  .rename_i a b F q;cases h;rcases ck.1 hw with rfl|hw
   .exact ay4 D u A y F
   exact aeF D u A y q w hw
  cases h
def au9(h:fp n σ)(F:0<n){T:XT}(y:∀p∈T,bg n p.2):jW n (tE σ ch T):=by
 intro ρ ρ' u;induction T with
 |nil=>rfl
 |cons p T A=>
  obtain⟨i,v⟩:=p;show(i,ev ρ (match lk ch i with|some p=>oD σ p|none=>v))::bG ρ (tE σ ch T)=(i,ev ρ' (match lk ch i with|some p=>oD σ p|none=>v))::bG ρ' (tE σ ch T);rw[A λ q D=>y q (cz _ D)];cases lk ch i;.simp only;rw[y _ cS ρ ρ' u]
  rename_i p;simp only;rw[QU h F p ρ ρ' u]
def aeS(h:fp n σ)(F:0<n){ch:List (Nat×List XV)}{T:dR}(y:∀p∈T,dk n p.2):∀ρ ρ',bY n ρ ρ'->aP ρ (kZ σ ch T)=aP ρ' (kZ σ ch T):=by
 intro ρ ρ' u;induction T with
 |nil=>rfl
 |cons p T A=>
  obtain⟨i,v⟩:=p;show(i,aE ρ (match lk ch i with|some p=>gp σ p|none=>v))::aP ρ (kZ σ ch T)=(i,aE ρ' (match lk ch i with|some p=>gp σ p|none=>v))::aP ρ' (kZ σ ch T);rw[A λ q D=>y q (cz _ D)];cases lk ch i;.simp only;rw[y _ cS ρ ρ' u]
  rename_i p;simp only;rw[vN h F p ρ ρ' u]
theorem Ha(h:kB n s):∀F∈s.up,∀p∈F,dk n p.2:=λ F y p q ρ ρ' u=>by have:=dc aq.up (h ρ ρ' u);have:=Er.1 (show s.up.map _=s.up.map _ from this) F y;have:=Er.1 (show F.map _=F.map _ from this) p q;grind
def abW(h:fp n σ)(q:0<n):∀{S:List dR},(∀F∈S,∀p∈F,dk n p.2)->∀ρ ρ',bY n ρ ρ'->(mj σ U S).map (aP ρ)=(mj σ U S).map (aP ρ')
 |[],_,_,_,_=>rfl
 |F::S,y,ρ,ρ',u=>by show aP ρ (kZ σ (qU U S.length) F)::(mj σ U S).map (aP ρ)=aP ρ' (kZ σ (qU U S.length) F)::(mj σ U S).map (aP ρ');rw[aeS h q (y F cS) ρ ρ' u,abW h q (λ D A=>y D (cz _ A)) ρ ρ' u]
def afF(F:kI C.tb){H:XT}{u:XS}{E:bk}(q:lC C.tb ρ a)(G:∀v∈refs,bg a.k.nx v)(h:fit C I refs a.k a.T H a.s u=some E):
 CM ρ I refs (cg ρ E)/\eY a.k.nx E/\bG ρ a.T=qE ρ (cg ρ E) I.T H/\a.s.up.length=u.up.length/\tq I a.s.w u.w=true/\aX ρ a.s=J0 ρ (cg ρ E) I a.s.w u/\∃l∈I.fs,∀f∈l,dL C.tb (cg ρ E) f:=by
 unfold fit at h;split at h
 .rename_i D;split at h
  .rename_i E1 N;split at h
   .rename_i E2 L;split at h;.rename_i E3 h3;obtain⟨a1,a2,a3⟩:=PB q.k (auF q.b G) (Mh q.T) N;obtain⟨b1,b2,b3⟩:=Jb q.k a2 (Hu q.s) L;obtain⟨Z,A,Y,S⟩:=Zx q.k b2 (Ha q.s) h3;obtain⟨y,c2,l,J,c3⟩:=aaT F q.b q.k Y h;refine⟨aua q.k (((a1.trans b1).trans A).trans y),c2,a3 E ((b1.trans A).trans y),Z,D,?_,l,J,c3 E .rfl⟩;show aq.mk _ _ _=aq.mk _ _ _;rw[b3 E (A.trans y),S E y]
    cases h
   cases h
  cases h
 .cases h
theorem ads(ρ r ρ0:bm)(ch:List (Nat×XV))(σ:Sub):∀{T:XT},(∀p∈T,ev ρ p.2=ev ρ0 p.2)->qE ρ r ch (tE σ ch T)=qE ρ0 r ch T
 |[],_=>rfl
 |(i,v)::T,h=>by show(i,match lk ch i with|some q=>ev r q|none=>ev ρ (match lk ch i with|some p=>oD σ p|none=>v))::qE ρ r ch (tE σ ch T)=(i,match lk ch i with|some q=>ev r q|none=>ev ρ0 v)::qE ρ0 r ch T;rw[ads ρ r ρ0 ch σ λ q u=>h q (cz _ u)];grind[List.mem_cons_self]
theorem TS(ρ r ρ0:bm)(ch:List (Nat×List XV))(σ:Sub):∀{T:dR},(∀p∈T,aE ρ p.2=aE ρ0 p.2)->lF ρ r ch (kZ σ ch T)=lF ρ0 r ch T
 |[],_=>rfl
 |(i,v)::T,h=>by show(i,match lk ch i with|some q=>aE r q|none=>aE ρ (match lk ch i with|some p=>gp σ p|none=>v))::lF ρ r ch (kZ σ ch T)=(i,match lk ch i with|some q=>aE r q|none=>aE ρ0 v)::lF ρ0 r ch T;rw[TS ρ r ρ0 ch σ λ q u=>h q (cz _ u)];grind[List.mem_cons_self]
def VQ(ρ r ρ0:bm)(U:List (Nat×List (Nat×List XV)))(σ:Sub):∀{S:List dR},(∀F∈S,∀p∈F,aE ρ p.2=aE ρ0 p.2)->ny ρ r U (mj σ U S)=ny ρ0 r U S
 |[],_=>rfl
 |F::S,h=>by show lF ρ r (qU U (mj σ U S).length) (kZ σ (qU U S.length) F)::ny ρ r U (mj σ U S)=lF ρ0 r (qU U S.length) F::ny ρ0 r U S;rw[Ze,TS ρ r ρ0 _ σ (h F cS),VQ ρ r ρ0 U σ λ u q=>h u (cz _ q)]
def X7{ρ ρ0:bm}:∀{S:List dR},(∀F∈S,∀p∈F,aE ρ p.2=aE ρ0 p.2)->ny ρ r U S=ny ρ0 r U S
 |[],_=>rfl
 |F::S,h=>by
  show lF ρ r (qU U S.length) F::ny ρ r U S=lF ρ0 r (qU U S.length) F::ny ρ0 r U S;rw[X7 λ y u=>h y (cz _ u)]
  congr 1
  exact kX λ p q=>by rw[h F cS p q]
theorem amT{w w0:Bool}(h:tq I w w0=true):w∈Uj I w0:=by grind[tq,Uj]
theorem ax2{a b c:Bool}(h:tq I a b=true)(q:tq I b c=true):tq I a c=true:=by grind[tq]
theorem aAf{a:Bool}:tq I a a=true:=by grind[tq]
abbrev Hs(P:Program)(gl:aM)(Z7:cI)(n:Nat)(c:CC)(T:VT)(st:aq):bm->eE->XA->Prop:=λ ρ' e b=>aJ P gl Z7 n c T st=some (e,bG ρ' b.T,aX ρ' b.s)
theorem awn(ht:kI C.tb){h:Option (List Nat×List Nat)}{x:CC}{ad:XA->Option (List (eE×XA))}{u:XA}{r:List (eE×XA)}{ρ0:bm}{Inva:bm->Prop}(au:∀ρ ρ',bY u.k.nx ρ ρ'->Inva ρ->Inva ρ')
 (am:∀{a:XA} {r:List (eE×XA)} {ρ:bm},ad a=some r->lC C.tb ρ a->Inva ρ->u.k.nx<=a.k.nx->Ds C.tb ρ a.k (Hs P gl Z7 n x (bG ρ a.T) (aX ρ a.s)) r)
 (hg:lC C.tb ρ0 u) (hI:Inva ρ0) (hx:O0 C I h ad u=some r):Ds C.tb ρ0 u.k (Hs P gl Z7 n (.loop h x) (bG ρ0 u.T) (aX ρ0 u.s)) r:=by
 obtain⟨bT,bS⟩:=Fa hg.T hg.s h;unfold O0 at hx;simp only at hx;split at hx;.cases hx
 .rename_i refs ah;split at hx;.cases hx
  rename_i E0 aw;have aa:=aeF bT bS hg.b rfl ah;have aF:lC C.tb ρ0 ⟨(dI h u.T u.s).1,(dI h u.T u.s).2,u.k⟩:=⟨hg.b,hg.k,bT,bS⟩;obtain⟨f1,f2,f3,aT,aS,f4,l0,aD,f5⟩:=afF ht (a:=⟨(dI h u.T u.s).1,(dI h u.T u.s).2,u.k⟩) aF aa aw
  have an:∀(m:Nat) (q:bm) (l:List cq) (T:VT) (st:aq) (w:Bool),tq I w (dI h u.T u.s).2.w=true->l∈I.fs->(b8 q I.m.1-b8 q I.m.2+1).toNat<m->CM ρ0 I refs q->(∀f∈l,dL C.tb q f)->
   me h T st=(qE ρ0 q I.T (dI h u.T u.s).1,J0 ρ0 q I w (dI h u.T u.s).2)->Ds C.tb ρ0 u.k (Hs P gl Z7 n (.loop h x) T st) r:=by
   intro m;induction m with
   |zero=>intro q l T st w _ _ hm;omega
   |succ m ih=>
    intro q l T st w hw hl hm hq hf aO;obtain⟨y0,ay,af⟩:=sT hx w (amT hw);obtain⟨y,hy,ae⟩:=sT ay l hl;have ap:∀z∈y,z∈r:=λ z hz=>af z (ae z hz)
    unfold aa4 at hy;simp only at hy;split at hy
    .rename_i al;split at hy;.cases hy
     rename_i outs ai;split at hy
     .rename_i ax;cases hy;obtain⟨mid,aL,aA⟩:=hq;have hn:=hg.b.z;obtain⟨ρ1,s1,s2,s3,s4⟩:=Mm (E:=refs.map some) (nx:=u.k.nx+I.k) (ρ:=more ρ0 u.k.nx mid) (by omega) (λ o ho v hv=>by subst hv;obtain⟨w,hw,he⟩:=eK.1 ho;cases he;exact(aa _ hw).mono (VC _ _))
      have aK:bY u.k.nx ρ0 (more ρ0 u.k.nx mid):=Vc;have ag:bY u.k.nx ρ0 ρ1:=aK.trans s1 (by omega);have L:ρ1 0=SV.z:=MU hn ag hg.k.z;have N:fp (cH (refs.map some) (u.k.nx+I.k)).2 (.i 0 0::cN I.k u.k.nx++(cH (refs.map some) (u.k.nx+I.k)).1):=fp.append (fp.cons (s:=.i 0 0) (show 0<_ by omega) ((Mi _ _).mono s2)) s3
      have D:pull ρ1 (.i 0 0::cN I.k u.k.nx++(cH (refs.map some) (u.k.nx+I.k)).1)=q:=by
       rw[XG,aA,mT,fL,s4,ko];have e1:dS ρ1 (.i 0 0)=SV.z:=by show SV.mk _ _ _ _=_;rw[L];rfl
       have e2:(cN I.k u.k.nx).map (dS ρ1)=mid:=by
        refine xr λ j=>?_
        rw[bM,Jp];by_cases hj:j<I.k;.rw[ao hj];show some (ρ1 (u.k.nx+j))=_;rw[<-s1 (u.k.nx+j) (by omega)];show some (if u.k.nx+j<u.k.nx then _ else mid.getD (u.k.nx+j-u.k.nx) SV.z)=_;grind
        grind
       grind[List.map_congr_left,Nl]
      have av:lC C.tb ρ1 ⟨tE (.i 0 0::cN I.k u.k.nx++(cH (refs.map some) (u.k.nx+I.k)).1) I.T (dI h u.T u.s).1,{w:=w,cur:=kZ (.i 0 0::cN I.k u.k.nx++(cH (refs.map some) (u.k.nx+I.k)).1) I.B (dI h u.T u.s).2.cur,up:=mj (.i 0 0::cN I.k u.k.nx++(cH (refs.map some) (u.k.nx+I.k)).1) I.U (dI h u.T u.s).2.up},
       ({u.k with nx:=(cH (refs.map some) (u.k.nx+I.k)).2}:XK).facts (l.map (Eb (.i 0 0::cN I.k u.k.nx++(cH (refs.map some) (u.k.nx+I.k)).1)))⟩:=by
       have ab:u.k.nx<=(cH (refs.map some) (u.k.nx+I.k)).2:=by omega
       have aj:0<(cH (refs.map some) (u.k.nx+I.k)).2:=by omega
       refine⟨E6 (Mb hg.b ab) λ f hf=>?_,Dq (KL (hg.k.nh hg.b ag) _) λ f aQ=>?_,?_,?_⟩;.grind[Sx]
       .grind[RY]
       .rw[rX];exact au9 N aj λ p G=>(Mh bT p G).mono ab
       .rw[rX];intro ρ ρ' ha;show aq.mk _ _ _=aq.mk _ _ _;have e1:=aeS N aj (ch:=I.B) (T:=(dI h u.T u.s).2.cur) (λ p G=>(Hu bS p G).mono ab) ρ ρ' ha;have e2:=abW N aj (U:=I.U) (S:=(dI h u.T u.s).2.up) (λ F hF p G=>(Ha bS F hF p G).mono ab) ρ ρ' ha;grind
      obtain⟨o,ho,ρ2,g1,g2,g3,g4⟩:=am ai av (au _ _ ag hI) (by grind[rX]);rw[rX]at g1 g2;have Z:bY u.k.nx ρ0 ρ2:=ag.trans g1 (by grind);have aG:bG ρ1 (tE (.i 0 0::cN I.k u.k.nx++(cH (refs.map some) (u.k.nx+I.k)).1) I.T (dI h u.T u.s).1)=qE ρ0 q I.T (dI h u.T u.s).1:=by rw[Zf L,D];exact kX λ p G=>by rw[<-(Mh bT p G) ρ0 ρ1 ag]
      have aH:aX ρ1 {w:=w,cur:=kZ (.i 0 0::cN I.k u.k.nx++(cH (refs.map some) (u.k.nx+I.k)).1) I.B (dI h u.T u.s).2.cur,up:=mj (.i 0 0::cN I.k u.k.nx++(cH (refs.map some) (u.k.nx+I.k)).1) I.U (dI h u.T u.s).2.up}=J0 ρ0 q I w (dI h u.T u.s).2:=by
       show aq.mk _ (aP ρ1 (kZ _ _ _)) _=aq.mk _ _ _;rw[O1 L,D];have e1:lF ρ1 q I.B (dI h u.T u.s).2.cur=lF ρ0 q I.B (dI h u.T u.s).2.cur:=kX λ p G=>by rw[<-(Hu bS p G) ρ0 ρ1 ag]
       have e2:ny ρ1 q I.U (dI h u.T u.s).2.up=ny ρ0 q I.U (dI h u.T u.s).2.up:=X7 λ F hF p G=>(Ha bS F hF p G) ρ1 ρ0 ag.symm
       grind[ae2]
      have g4:aJ P gl Z7 n x (bG ρ1 _) (aX ρ1 _)=some (o.1,bG ρ2 o.2.T,aX ρ2 o.2.s):=g4;rw[aG,aH]at g4;have Y:aJ P gl Z7 n (.loop h x) T st=mY (aJ P gl Z7 n (.loop h x)) (some (o.1,bG ρ2 o.2.T,aX ρ2 o.2.s)):=by grind[iw]
      have ac:u.k.nx<=o.2.k.nx:=fX (show u.k.nx<=(cH (refs.map some) (u.k.nx+I.k)).2 by omega) g2;cases J:OO o.1
      .refine⟨o,ap o (Vq.2 ⟨ho,by rw[J];rfl⟩),ρ2,Z,ac,g3,?_⟩;show aJ P gl Z7 n (.loop h x) T st=_;rw[Y];obtain⟨oe,oa⟩:=o;cases oe with
       |normal=>cases J
       |exit j=>rfl
       |ret=>rfl
      have A:=ij.1 ax o ho;rw[J]at A;simp only[Vx,aiE]at A;split at A
      .rename_i E hE;split at A
       .rename_i A' B' hA hB;obtain⟨tT,tS⟩:=Fa g3.T g3.s h;have aE:lC C.tb ρ2 ⟨(dI h o.2.T o.2.s).1,(dI h o.2.T o.2.s).2,o.2.k⟩:=⟨g3.b,g3.k,tT,tS⟩;have ar:∀v∈refs,bg o.2.k.nx v:=λ v hv=>(aa v hv).mono ac
        obtain⟨e1,e2,e3,aU,aI,e4,l2,aC,e5⟩:=afF ht (a:=⟨(dI h o.2.T o.2.s).1,(dI h o.2.T o.2.s).2,o.2.k⟩) aE ar hE;have az:CM ρ0 I refs (cg ρ2 E):=aqF aa Z e1
        have aB:Ds C.tb ρ0 u.k (Hs P gl Z7 n (.loop h x) (bG ρ2 o.2.T) (aX ρ2 o.2.s)) r:=by
         refine ih (cg ρ2 E) l2 _ _ _ (ax2 aI hw) aC ?_ az e5 ?_
         .have m1:=tI (ρ:=ρ2) hA kG.rfl;have m2:=tI (ρ:=ρ2) hB kG.rfl;have k1:b8 ρ2 (nR (.i 0 0::cN I.k u.k.nx++(cH (refs.map some) (u.k.nx+I.k)).1) I.m.1)=b8 q I.m.1:=by rw[<-Hw g1 (p:=nR _ _) (N.num (by omega) _),Gb L,D]
          have k2:b8 ρ2 (nR (.i 0 0::cN I.k u.k.nx++(cH (refs.map some) (u.k.nx+I.k)).1) I.m.2)=b8 q I.m.2:=by rw[<-Hw g1 (p:=nR _ _) (N.num (by omega) _),Gb L,D]
          have ak:=dr av.k al;have ak:b8 ρ1 (nR (.i 0 0::cN I.k u.k.nx++(cH (refs.map some) (u.k.nx+I.k)).1) I.m.2)<=b8 ρ1 (nR (.i 0 0::cN I.k u.k.nx++(cH (refs.map some) (u.k.nx+I.k)).1) I.m.1):=ak;rw[Gb L,Gb L,D]at ak;unfold Yt at A;rw[nZ,aR,aR]at A
          have aN:b8 ρ2 A'-b8 ρ2 B'+1<=b8 q I.m.1-b8 q I.m.2:=by
           rcases A with⟨h1,h2⟩|⟨h1,h2⟩
           .have q1:=dr g3.k h1;have q2:=dr g3.k h2;grind[b8]
           have q1:=dr g3.k h1;have q2:=dr g3.k h2;grind[b8]
          grind[b8]
         rw[Ay];have e3:bG ρ2 (dI h o.2.T o.2.s).1=_:=e3;have e4:aX ρ2 (dI h o.2.T o.2.s).2=_:=e4;rw[e3,e4];rw[ads ρ2 (cg ρ2 E) ρ0 I.T _ λ p G=>(Mh bT p G) ρ2 ρ0 Z.symm]
         congr 1
         show aq.mk _ (lF ρ2 _ I.B (kZ _ _ _)) (ny ρ2 _ I.U (mj _ _ _))=aq.mk _ _ _;rw[TS ρ2 (cg ρ2 E) ρ0 I.B _ λ p G=>(Hu bS p G) ρ2 ρ0 Z.symm,VQ ρ2 (cg ρ2 E) ρ0 I.U _ λ F hF p G=>(Ha bS F hF p G) ρ2 ρ0 Z.symm]
        obtain⟨z,hz,ρ3,z1,z2,z3,z4⟩:=aB;refine⟨z,hz,ρ3,z1,z2,z3,?_⟩;show aJ P gl Z7 n (.loop h x) T st=_;rw[Y];obtain⟨oe,oa⟩:=o;cases oe with
        |normal=>exact z4
        |exit j=>cases J
        |ret=>cases J
       cases A
      cases A
     cases hy
    cases hy
  have f3:bG ρ0 (dI h u.T u.s).1=_:=f3;have f4:aX ρ0 (dI h u.T u.s).2=_:=f4;exact an _ (cg ρ0 E0) l0 _ _ _ aAf aD (iW _) f1 f5 (by rw[Ay,f3,f4])
end
section
variable{args:List XV}
variable{ρ ρ':bm}{C:eL}{K K':XK}{P:Program}{gl:aM}{T:XT}{s:XS}{n:Nat}{pol:FuncId->eV}{bset:FuncId->Bool}{base:eH}
def OG(ks:List Nat)(ρ:bm):Prop:=∀i:Nat,ks[i]? =some 0->ρ (i+1)=⟨(ρ (i+1)).i,false,[],[]⟩
def iZ(Z7:cI)(tb:js)(g:Nat)(c:Ct)(h:Option (Int×Int)):Prop:=∀ρ:bm,ρ 0=SV.z->OG c.ks ρ->(∀f∈c.pre,dL tb ρ f)->(∀m lo,h=some (m,lo)->∃x l,c.dec=some (x,l)/\(ρ x).i<m/\lo<=(ρ x).i)->∃o∈c.outs,∃ρ',bY (c.ks.length+1) ρ ρ'/\(∀x,c.ks.length+1+o.k<=x->ρ' x=SV.z)/\(∀S,Z7 g (aE ρ c.args) S=some (ev ρ' o.res,S,false))/\∀f∈o.post,dL tb ρ' f
structure XH (P:Program) (gl:aM) (pol:FuncId->eV) (bset:FuncId->Bool) (base:eH) (C:eL) (M:Int):Prop where
 tb:kI C.tb
 st:∀t,C.st t=true->P.underlying t=some .string
 fn:∀g F,C.fn g=some F->db P (pol g) g=some F/\bset g=false
 ok:∀g,C.ok g=true->cy P g=true
 ct:∀f g c,C.ct f g=some c->iZ (vω P pol gl bset base) C.tb g c (match C.self with|some (f0,_,lo)=>(match Nat.beq f0 g with|true=>some (M,lo)|false=>none)|none=>none)
def yH(C:eL)(M:Int)(ρ:bm)(K:XK):Prop:=∀h a c,C.self=some (h,a,c)->a<K.nx/\(ρ a).i=M
def B5{ρ ρ':bm}{K K':XK}(h:yH C M ρ K)(y:bY K.nx ρ ρ')(u:K.nx<=K'.nx):yH C M ρ' K':=λ D a c e=>by obtain⟨q,A⟩:=h D a c e;exact⟨dF q u,by rw[<-y a q];exact A⟩
theorem V5:∀{ks:List Nat} {E:bk},vm ks E=true->∀(i:Nat) (o:Option XV),ks[i]? =some 0->E[i]? =some o->o=none\/∃k y d,o=some (.int k y d)
 |[],E,h,i,o,u,_=>by simp at u
 |k::ks,[],h,i,o,_,q=>by simp at q
 |k::ks,e::E,h,i,o,u,q=>by
  have rest:vm ks E=true/\(k=0->e=none\/∃k y d,e=some (.int k y d)):=by
   cases k
   .cases e;.grind[vm]
    rename_i v;cases v<;>first|(simp[vm]at h;done)|grind[vm]
   rename_i k;exact⟨by simpa[vm]using h,λ h=>by cases h⟩
  cases i;.grind
  rename_i i;simp at u q;exact V5 rest.1 i o u q
theorem Ys(F:cB K)(hk:bw C.tb ρ K){E:bk}(hE:eY K.nx E){o:Cl}{ρ':bm}(c1:∀x,x<E.length->cg ρ E x=ρ' x)(c2:∀x,E.length+o.k<=x->ρ' x=SV.z)(c4:∀f∈o.post,dL C.tb ρ' f)(hs:kB K.nx s):
 ∃ρ2,bY K.nx ρ ρ2/\bw C.tb ρ2 (vy s K (cH E K.nx).1 (cH E K.nx).2 o).k/\
  (K.nx<=(vy s K (cH E K.nx).1 (cH E K.nx).2 o).k.nx/\cB (vy s K (cH E K.nx).1 (cH E K.nx).2 o).k/\bg (vy s K (cH E K.nx).1 (cH E K.nx).2 o).k.nx (vy s K (cH E K.nx).1 (cH E K.nx).2 o).v/\kB (vy s K (cH E K.nx).1 (cH E K.nx).2 o).k.nx (vy s K (cH E K.nx).1 (cH E K.nx).2 o).s)/\
  ev ρ2 (vy s K (cH E K.nx).1 (cH E K.nx).2 o).v=ev ρ' o.res:=by
 obtain⟨G,s1,S,s3,s4⟩:=Mm (E:=E) (nx:=K.nx) (ρ:=ρ) F.z (eY.mem hE)
 let h:=(cH E K.nx).2
 let mid:=(List.range o.k).map λ j=>ρ' (E.length+j)
 have Z:mid.length=o.k:=by rw[aF,List.length_range]
 let ρ2:=more G h mid
 have A:bY h G ρ2:=Vc;have N:bY K.nx ρ ρ2:=s1.trans A S;have L:ρ2 0=SV.z:=MU F.z N hk.z;have J:fp (h+o.k) ((cH E K.nx).1++cN o.k h):=fp.append (s3.mono (VC _ _)) (Mi _ _)
 have D:pull ρ2 ((cH E K.nx).1++cN o.k h)=ρ':=by
  rw[XG,mT]
  have e1:(cH E K.nx).1.map (dS ρ2)=E.map (jO ρ):=by
   rw[<-s4];refine kX λ e he=>?_
   have:=s3 e he;cases e with
   |i y d=>show SV.mk _ _ _ _=SV.mk _ _ _ _;rw[A y this]
   |s y=>exact(A y this).symm
  have e2:(cN o.k h).map (dS ρ2)=mid:=by
   refine xr λ j=>?_
   rw[bM,Jp];by_cases hj:j<o.k;.rw[ao hj];show some (ρ2 (h+j))=_;show some (if h+j<h then _ else mid.getD (h+j-h) SV.z)=_;grind
   grind
  rw[e1,e2];funext x;rw[RN,aF];by_cases Y:x<E.length;.rw[ao Y];exact c1 x Y
  grind[aQ]
 have u:K.nx<=h+o.k:=fX S (VC _ _);refine⟨ρ2,N,?_,⟨by show _<=(XK.facts _ _).nx;rw[rX];exact u,E6 (Mb F u) λ f hf=>?_,?_,?_⟩,?_⟩
 .refine Dq (KL (hk.nh F N) _) λ f hf=>?_
  grind[RY]
 .obtain⟨q,_,rfl⟩:=eK.1 hf;exact Sx J (dF F.z u) q
 .show bg (XK.facts _ _).nx _;rw[rX];exact QU J (dF F.z u) _
 .show kB (XK.facts _ _).nx _;rw[rX];exact hs.mono u
 .show ev ρ2 (oD _ o.res)=_;rw[HT L,D]
def Py(D:bw C.tb ρ K):∀{p:List (Option XV)} {v:List XV} {E q:bk},eY K.nx E->dk K.nx v->HN K p v E=some q->kG E q/\eY K.nx q
 |[],v,E,q,y,u,h=>by cases h;exact⟨.rfl,y⟩
 |none::ps,v::vs,E,q,y,u,h=>Py D y (dk.of λ w A=>u.mem (cz _ A)) h
 |some p::ps,v::vs,E,q,y,u,h=>by
  unfold HN at h;split at h;.rename_i G F;obtain⟨a1,a2,_⟩:=F9 D y (u.mem cS) F;obtain⟨b1,b2⟩:=Py D a2 (dk.of λ w A=>u.mem (cz _ A)) h;exact⟨a1.trans b1,b2⟩
  cases h
 |none::_,[],_,_,_,_,h=>by cases h
 |some _::_,[],_,_,_,_,h=>by cases h
theorem abQ(J:bw C.tb ρ K){S:List dR}(N:∀F∈S,∀p∈F,dk K.nx p.2):∀{l:List (Nat×Nat×List XV)} {E y:bk},eY K.nx E->Ja K S l E=some y->kG E y/\eY K.nx y
 |[],E,y,D,h=>by cases h;exact⟨.rfl,D⟩
 |(d,k,p)::l,E,y,D,h=>by
  unfold Ja at h;split at h
  .rename_i F Y;split at h
   .rename_i cs A;split at h
    .rename_i E1 Z
     have u:∃i,(i,cs)∈F:=by
      have G:∀{L:dR},lk L k=some cs->∃i,(i,cs)∈L:=by
       intro L;induction L with
       |nil=>intro h;cases h
       |cons q L ih=>grind[lk]
      exact G A
     obtain⟨i,hi⟩:=u;obtain⟨a1,a2,_⟩:=Bt J D (N F (jm Y) _ hi) Z;obtain⟨b1,b2⟩:=abQ J N a2 h;exact⟨a1.trans b1,b2⟩
    cases h
   cases h
  cases h
def Un:∀{F G:dR},zJ F G=true->aP ρ F=aP ρ G
 |[],[],_=>rfl
 |(i,v)::F,(j,w)::G,h=>by simp only[zJ,aR]at h;show(i,aE ρ v)::aP ρ F=(j,aE ρ w)::aP ρ G;rw[cU h.1.1,yZ h.1.2,Un h.2]
 |[],_::_,h=>by simp[zJ]at h
 |_::_,[],h=>by simp[zJ]at h
def afC:∀{l r:List dR},Dg l r=true->l.map (aP ρ)=r.map (aP ρ)
 |[],[],_=>rfl
 |F::l,G::r,h=>by simp only[Dg,aR]at h;show aP ρ F::l.map (aP ρ)=aP ρ G::r.map (aP ρ);rw[Un h.1,afC h.2]
 |[],_::_,h=>by simp[Dg]at h
 |_::_,[],h=>by simp[Dg]at h
theorem aov(ht:kI C.tb){Z7:cI}{sm:Sm}{G:List gP}(y:L8 C sm s K args G=some l)(hb:cB K)(hk:bw C.tb ρ K)(ha:dk K.nx args)(J:kB K.nx s)(h:wG C.tb ρ K (E5 Z7 ρ s g args) G):wG C.tb ρ K (E5 Z7 ρ s g args) l:=by
 unfold L8 at y;split at y
 .rename_i E1 h1;split at y
  .rename_i E2 h2;split at y
   .rename_i E h3;split at y
    .rename_i hc;cases y;rw[aR]at hc;obtain⟨N,aa⟩:=hc
     have af:eY K.nx (some (.int .i64 0 0)::List.replicate sm.ks none):=by
      intro x v y;rcases ck.1 (jm y)with hm|hm
      .cases hm;exact eD hb.z
      grind
     have ab:∀F∈s.cur::s.up,∀p∈F,dk K.nx p.2:=by
      intro F hF;rcases ck.1 hF with rfl|hF
      .exact Hu J
      exact Ha J F hF
     obtain⟨a1,a2⟩:=Py hk af ha h1;obtain⟨b1,b2⟩:=abQ hk ab a2 h2;obtain⟨c1,c2,_⟩:=(zA ht cF).fs hb hk b2 h3;obtain⟨r,hr,q,g1,g2,⟨g3,g4,g5,g6⟩,d,g7,g8,g9,ai⟩:=h;have S:=ij.1 aa r hr;rw[aR,aR,NA]at S;obtain⟨⟨u,Z⟩,o,ho,A⟩:=S
     have hd:d=false:=by
      rw[g9]at Z;cases d;.rfl
      cases Z
     subst hd;unfold ad9 at A;split at A
     .rename_i E3 ae;rw[pI]at A;obtain⟨E4,ad⟩:=A
      have ac:eY r.k.nx (E++List.replicate o.k none):=by
       intro x v y;rcases jA.1 (jm y)with hm|hm
       .exact(c2.mem _ hm v rfl).mono g3
       grind
      obtain⟨m1,m2,m3⟩:=F9 g2 ac g5 ae;obtain⟨n1,n2,n3⟩:=(zA ht cF).fs g4 g2 m2 ad;have Y:=m1.trans n1;have ah:E4.length=E.length+o.k:=by rw[<-Y.1,dM,om]
      obtain⟨ρ3,ag,q1,q2,q3⟩:=Ys (s:=s) hb hk c2 (o:=o) (ρ':=cg q E4) (λ x y=>by
       have D:E[x]? =some E[x]:=cW y;have L:=ij.1 N _ (jm D);rw[pI]at L;obtain⟨v,hv⟩:=L;rw[hv]at D;rw[fG D,fG (Y.2 x v (by grind))];exact Nl (c2 x v D) g1) (λ x y=>by
       unfold cg aQ;grind) (n3 E4 .rfl) J
      refine⟨_,eK.2 ⟨o,ho,rfl⟩,ρ3,ag,q1,q2,false,?_,(En _).symm,rfl,rfl⟩;rw[g7,q3];have e1:ev (cg q E4) o.res=ev q r.v:=m3 E4 n1;rw[e1];unfold afL at u;rw[aR,aR]at u;have e2:aP q r.s.cur=aP q s.cur:=Un u.1.2;have e3:r.s.up.map (aP q)=s.up.map (aP q):=afC u.2;have e4:aP q s.cur=aP ρ s.cur:=dc aq.cur (J q ρ g1.symm);have e5:s.up.map (aP q)=s.up.map (aP ρ):=dc aq.up (J q ρ g1.symm);have e6:aP ρ s.cur=aP ρ3 s.cur:=dc aq.cur (J ρ ρ3 ag);have e7:s.up.map (aP ρ)=s.up.map (aP ρ3):=dc aq.up (J ρ ρ3 ag);show some (_,aP q r.s.cur::r.s.up.map (aP q),false)=some (_,aP ρ3 s.cur::s.up.map (aP ρ3),false);grind
     cases A
    cases y
   cases y
  cases y
 cases y
theorem aoN(H:XH P gl pol bset base C M){f:Nat}(ae:C.ct f g=some ct)(A:Ni C s K g ct args=some l)(hb:cB K)(J:bw C.tb ρ K)(ab:yH C M ρ K)(ha:dk K.nx args)(hs:kB K.nx s):
 wG C.tb ρ K (E5 (vω P pol gl bset base) ρ s g args) l:=by
 unfold Ni at A;split at A
 .rename_i E1 h1;split at A
  .rename_i E h2;split at A
   .rename_i hc;cases A;rw[aR]at hc;obtain⟨S,u⟩:=hc
    have af:eY K.nx (some (.int .i64 0 0)::List.replicate ct.ks.length none):=by
     intro x v A;have:=jm A;rcases ck.1 this with hm|hm
     .cases hm;exact eD hb.z
     grind
    obtain⟨a1,a2,a3⟩:=XZ J af ha h1;obtain⟨b1,b2,b3⟩:=(zA H.tb cF).fs hb J a2 h2;have N:=a1.trans b1;have D:E.length=ct.ks.length+1:=by rw[<-N.1,cD,om]
    have Z:E[0]? =some (some (.int .i64 0 0)):=N.2 0 _ rfl;have aa:jO ρ (some (.int .i64 0 0))=SV.z:=by show SV.mk _ _ _ _=_;rw[J.z];rfl
    have hz:cg ρ E 0=SV.z:=by rw[fG Z];exact aa
    have G:OG ct.ks (cg ρ E):=by
     intro i hi;have ah:=Jw hi;have ac:i+1<E.length:=by omega
     have he:E[i+1]? =some E[i+1]:=cW ac;have ad:(E.drop 1)[i]? =some E[i+1]:=by grind
     rcases V5 S i _ hi ad with h|⟨k,y,d,h⟩
     .have:cg ρ E (i+1)=SV.z:=by unfold cg aQ;rw[pJ,bM,he,h];rfl
      rw[this];rfl
     rw[h]at he;rw[fG he];rfl
    obtain⟨o,ho,ρ',c1,c2,c3,c4⟩:=H.ct f g ct ae (cg ρ E) hz G (b3 E .rfl) (λ m lo hm=>by
     unfold Wd at u;cases F:C.self;.rw[F]at hm;cases hm
     rename_i q;obtain⟨f0,a,c⟩:=q;rw[F]at hm u;simp only at hm u;cases Y:Nat.beq f0 g;.rw[Y]at hm;cases hm
     rw[Y]at hm u;cases hm;simp only[jz]at u;cases hd:ct.dec;.rw[hd]at u;cases u
     rename_i p;obtain⟨x,l⟩:=p;rw[hd]at u;simp only at u;refine⟨x,l,rfl,?_⟩;split at u
     .rename_i y d hy;rw[aR]at u;have e1:=tI (ρ:=ρ) hy kG.rfl;have e2:=dr J u.1;have e3:=dr J u.2;have hM:=(ab _ _ _ F).2;have h0:(ρ 0).i=0:=by rw[J.z];rfl
      grind[b8]
     cases u)
    obtain⟨L,ag,q1,q2,q3⟩:=Ys (s:=s) hb J b2 (o:=o) (ρ':=ρ') (λ x A=>c1 x (by rw[<-D];exact A)) (λ x A=>c2 x (by rw[<-D];exact A)) c4 hs;refine⟨_,eK.2 ⟨o,ho,rfl⟩,L,ag,q1,q2,?_⟩;refine⟨false,?_,(En _).symm,rfl,rfl⟩;have e1:aE (cg ρ E) ct.args=aE ρ args:=a3 E b1;have:=c3 ((aX ρ s).cur::(aX ρ s).up);rw[e1]at this;rw[this,q3,hs ρ L ag];rfl
   cases A
  cases A
 .cases A
def aeD{l:List XV}(h:dk n l)(i:Nat):jW n (oQ i l):=λ ρ ρ' q=>by rw[<-Dd,<-Dd,h ρ ρ' q]
theorem UE(u:kB n s)(y:jW n T){rs:List CR}{l:List XV}(h:qc s T rs=some l):bg n (sw l):=λ ρ ρ' q=>by have A:=CA (ρ:=ρ) s T rs h;rw[u ρ ρ' q,y ρ ρ' q,CA s T rs h]at A;grind[DF]
theorem afp{M:Int}(H:XH P gl pol bset base C M):∀(m:Nat) {f n p:Nat} {c:CC} {a:XA} {r:List (eE×XA)} {ρ:bm},ot C m f n p c a=some r->lC C.tb ρ a->yH C M ρ a.k->
 Ds C.tb ρ a.k (Hs P gl (vω P pol gl bset base) n c (bG ρ a.T) (aX ρ a.s)) r
 |0,f,n,p,c,a,r,ρ,h,Z,L=>by unfold ot at h;cases h
 |m+1,f,n,p,c,a,r,ρ,h,Z,L=>by
  have IH:=@afp M H m;unfold ot at h
  have aw:Hf P C (vω P pol gl bset base) (yH C M) (λ g args s K=>
   if C.ok g then
    match C.ct f g with
    |some ct=>Ni C s K g ct args
    |none=>match C.fn g with
     |some F=>
      let op:=args.any XV.open
      let up:=cond op (s.cur::s.up) []
      match ot C m g (args.length+(F.n-args.length)) 0 F.c ⟨oQ 0 args,{w:=false,cur:=[],up:=up},K⟩with
      |some outs=>(match nv (AQ s op F.r) outs with
       |some ag=>(match C.sm f g with|some sm=>L8 C sm s K args ag|none=>some ag)
       |none=>none)
      |none=>none
     |none=>none
   else none):=by
   intro g args s K l ρ hx hb hk L ha hs;simp only at hx;split at hx
   .rename_i ay;refine⟨H.ok g ay,?_⟩;split at hx;.grind[aoN]
    split at hx
    .rename_i F hF;obtain⟨ap,ai⟩:=H.fn g F hF;split at hx
     .rename_i outs G
      have aj:∀{l:List gP},nv (AQ s (args.any XV.open) F.r) outs=some l->wG C.tb ρ K (E5 (vω P pol gl bset base) ρ s g args) l:=by
       intro l hx
       have an:lC C.tb ρ ⟨oQ 0 args,{w:=false,cur:=[],up:=cond (args.any XV.open) (s.cur::s.up) []},K⟩:=by
        refine⟨hb,hk,aeD ha 0,λ ρ ρ' q=>?_⟩;show aq.mk false [] ((cond (args.any XV.open) (s.cur::s.up) []).map (aP ρ))=aq.mk false [] ((cond (args.any XV.open) (s.cur::s.up) []).map (aP ρ'));cases args.any XV.open;.rfl
        have e1:aP ρ s.cur=aP ρ' s.cur:=dc aq.cur (hs ρ ρ' q);have e2:s.up.map (aP ρ)=s.up.map (aP ρ'):=dc aq.up (hs ρ ρ' q);grind
       obtain⟨o,ho,u,g1,g2,g3,g4⟩:=IH G an L;obtain⟨x,J,D⟩:=sT hx o ho;have g4:aJ P gl (vω P pol gl bset base) (args.length+(F.n-args.length)) F.c (bG ρ (oQ 0 args)) (aX ρ _)=some (o.1,bG u o.2.T,aX u o.2.s):=g4;have eo:(aE ρ args).any ae.open=args.any XV.open:=by grind[dz,any_map,Q1]
       unfold AQ at J;have aA:∀j,o.1≠.exit j:=by grind
       have ax:∀rs,qc o.2.s o.2.T F.r=some rs->mW F.r (some (o.1,bG u o.2.T,aX u o.2.s))=some (ev u (sw rs),(aX u o.2.s).up,o.2.s.w):=by
        intro rs aa;have e1:=CA (ρ:=u) o.2.s o.2.T F.r aa;cases az:o.1 with
        |exit j=>exact(aA j az).elim
        |normal=>show(match jC (aX u o.2.s) (bG u o.2.T) F.r with|some l=>some (lD l,(aX u o.2.s).up,(aX u o.2.s).w)|none=>none)=_;rw[e1];simp only[DF];rfl
        |ret=>show(match jC (aX u o.2.s) (bG u o.2.T) F.r with|some l=>some (lD l,(aX u o.2.s).up,(aX u o.2.s).w)|none=>none)=_;rw[e1];simp only[DF];rfl
       have J:(match qc o.2.s o.2.T F.r with
        |some l=>(match args.any XV.open with
         |true=>match o.2.s.up with
          |F::S=>some [(⟨sw l,[],{w:=s.w||o.2.s.w,cur:=F,up:=S},.eP (mZ o.2.s.w),o.2.k⟩:gP)]
          |[]=>none
         |false=>some [⟨sw l,[],s,.eP .clean,o.2.k⟩])
        |none=>none)=some x:=by
        grind
       cases aa:qc o.2.s o.2.T F.r;.rw[aa]at J;cases J
       rename_i rs;rw[aa]at J;have k1:=ax rs aa;cases ad:args.any XV.open
       .rw[ad]at J;cases J;have ac:bz P gl (vω P pol gl bset base) F (aE ρ args) []=some (ev u (sw rs),(aX u o.2.s).up,o.2.s.w):=by unfold bz;rw[yX,Dd,<-k1,<-g4];show mW F.r (aJ P gl _ _ F.c (bG ρ (oQ 0 args)) (aq.mk false [] []))=mW F.r (aJ P gl _ _ F.c (bG ρ (oQ 0 args)) (aq.mk false [] ((cond (args.any XV.open) (s.cur::s.up) []).map (aP ρ))));rw[ad];rfl
        refine⟨_,D _ (dp.2 rfl),u,g1,g3.k,⟨g2,g3.b,UE g3.s g3.T aa,hs.mono g2⟩,false,?_,(En _).symm,rfl,rfl⟩;rw[iU ap ai (by rw[eo];exact ad) ac];show some (_,(aX ρ s).cur::(aX ρ s).up,false)=some (_,(aX u s).cur::(aX u s).up,false);rw[hs ρ u g1]
       rw[ad]at J;simp only at J;cases ah:o.2.s.up;.rw[ah]at J;cases J
       rename_i F0 S0;rw[ah]at J;cases J;have ac:bz P gl (vω P pol gl bset base) F (aE ρ args) ((aX ρ s).cur::(aX ρ s).up)=some (ev u (sw rs),(aX u o.2.s).up,o.2.s.w):=by unfold bz;rw[yX,Dd,<-k1,<-g4];grind[aX,aP]
       have ao:=jG (pol:=pol) (bset:=bset) (base:=base) ap ai (by rw[eo];exact ad) ac;refine⟨_,D _ (dp.2 rfl),u,g1,g3.k,⟨g2,g3.b,UE g3.s g3.T aa,?_⟩,o.2.s.w,?_,rfl,rfl,rfl⟩;.intro ρ ρ' q;have e2:o.2.s.up.map (aP ρ)=o.2.s.up.map (aP ρ'):=dc aq.up (g3.s ρ ρ' q);rw[ah]at e2;have e3:aP ρ F0::S0.map (aP ρ)=aP ρ' F0::S0.map (aP ρ'):=e2;injection e3 with e4 e5;show aq.mk _ (aP ρ F0) (S0.map (aP ρ))=aq.mk _ (aP ρ' F0) (S0.map (aP ρ'));rw[e4,e5]
       rw[ao];show some (_,o.2.s.up.map (aP u),_)=some (_,aP u F0::S0.map (aP u),_);rw[ah];rfl
      split at hx
      .rename_i ag af;split at hx;.exact aov H.tb hx hb hk ha hs (aj af)
       cases hx;exact aj af
      cases hx
     cases hx
    cases hx
   cases hx
  cases c with
  |skip=>
   cases h;exact⟨_,dp.2 rfl,ρ,.rfl,be _,Z,VM⟩
  |exit id=>
   cases h;exact⟨_,dp.2 rfl,ρ,.rfl,be _,Z,adV⟩
  |ret=>
   cases h;exact⟨_,dp.2 rfl,ρ,.rfl,be _,Z,ZB⟩
  |ak l out=>
   simp only at h;split at h;.rename_i r' hr;cases h;obtain⟨b,hb,ρ',h1,Y,h3,N⟩:=S7 (gl:=gl) (n:=n) H.tb H.st aw B5 Z L hr;obtain⟨t1,t2⟩:=Fa h3.T h3.s out;refine⟨_,eK.2 ⟨b,hb,rfl⟩,ρ',h1,Y,⟨h3.b,h3.k,t1,t2⟩,?_⟩;show aJ P gl _ n (.ak l out) (bG ρ a.T) (aX ρ a.s)=_;rw[Yw,N];show some (eE.normal,me out (bG ρ' b.T) (aX ρ' b.s))=_;rw[Ay]
   cases h
  |dK l aF out=>
   simp only at h;split at h;.rename_i r' hr;cases h;obtain⟨b,hb,ρ',h1,Y,h3,N⟩:=ajx (gl:=gl) (n:=n) H.tb H.st aw B5 Z L hr;obtain⟨t1,t2⟩:=Fa h3.T h3.s out;refine⟨_,eK.2 ⟨b,hb,rfl⟩,ρ',h1,Y,⟨h3.b,h3.k,t1,t2⟩,?_⟩;show aJ P gl _ n (.dK l aF out) (bG ρ a.T) (aX ρ a.s)=_;rw[Lf,N];show some (eE.normal,me out (bG ρ' b.T) (aX ρ' b.s))=_;rw[Ay]
   cases h
  |seq x y=>
   simp only at h;split at h
   .rename_i outs G;obtain⟨o,ho,A,h1,Y,h3,N⟩:=IH G Z L;obtain⟨z,hz,D⟩:=sT h o ho;obtain⟨oe,oa⟩:=o;have N:aJ P gl _ n x (bG ρ a.T) (aX ρ a.s)=some (oe,bG A oa.T,aX A oa.s):=N;cases oe with
    |normal=>
     obtain⟨q,hq,u,k1,k2,k3,k4⟩:=IH hz h3 (B5 L h1 Y);refine⟨q,D q hq,u,h1.trans k1 Y,fX Y k2,k3,?_⟩;show aJ P gl _ n (.seq x y) _ _=_;rw[wg,N];exact k4
    |exit j=>
     cases hz;refine⟨_,D _ (dp.2 rfl),A,h1,Y,h3,?_⟩;show aJ P gl _ n (.seq x y) _ _=_;rw[wg,N];rfl
    |ret=>
     cases hz;refine⟨_,D _ (dp.2 rfl),A,h1,Y,h3,?_⟩;show aJ P gl _ n (.seq x y) _ _=_;rw[wg,N];rfl
   cases h
  |cond x y z=>
   simp only at h;split at h
   .rename_i v hv;split at h
    .rename_i bs ai;obtain⟨b0,e0,h1,g,av,A,Y,h3,N⟩:=ack Z.b Z.k (iy Z.b.z Z.T hv) ai;obtain⟨w,hw,D⟩:=sT h g av;have N:g.1=b0:=N;obtain⟨g1,g2,_⟩:=h1 g av;have eT:bG ρ a.T=bG A a.T:=Z.T ρ A Y;have eS:aX ρ a.s=aX A a.s:=Z.s ρ A Y;have au:lC C.tb A {a with k:=g.2}:=⟨g2,h3,Z.T.mono g1,Z.s.mono g1⟩;have al:yH C M A g.2:=B5 L Y g1;split at hw;.rename_i am;rw[am]at N;subst N;obtain⟨q,hq,u,k1,k2,k3,k4⟩:=IH hw au al;refine⟨q,D q hq,u,Y.trans k1 g1,fX g1 k2,k3,?_⟩;show aJ P gl _ n (.cond x y z) _ _=_;rw[UO,gn Z.k.z hv,e0,eT,eS];exact k4
     rename_i am;rw[am]at N;subst N;obtain⟨q,hq,u,k1,k2,k3,k4⟩:=IH hw au al;refine⟨q,D q hq,u,Y.trans k1 g1,fX g1 k2,k3,?_⟩;show aJ P gl _ n (.cond x y z) _ _=_;rw[UO,gn Z.k.z hv,e0,eT,eS];exact k4
    cases h
   cases h
  |block id x=>
   simp only at h;split at h
   .rename_i outs G;cases h;obtain⟨o,ho,A,h1,Y,h3,N⟩:=IH G Z L;obtain⟨oe,oa⟩:=o;have N:aJ P gl _ n x (bG ρ a.T) (aX ρ a.s)=some (oe,bG A oa.T,aX A oa.s):=N;cases oe with
    |normal=>
     refine⟨_,eK.2 ⟨_,ho,rfl⟩,A,h1,Y,h3,?_⟩;show aJ P gl _ n (.block id x) _ _=_;rw[La,N];rfl
    |exit j=>
     refine⟨_,eK.2 ⟨_,ho,rfl⟩,A,h1,Y,h3,?_⟩;grind[La,aaU]
    |ret=>
     refine⟨_,eK.2 ⟨_,ho,rfl⟩,A,h1,Y,h3,?_⟩;show aJ P gl _ n (.block id x) _ _=_;rw[La,N];rfl
   cases h
  |loop hd x=>
   simp only at h;split at h;.rename_i I hI;refine awn (Inva:=λ ρ=>yH C M ρ a.k) H.tb (λ ρ ρ' ha hi=>B5 hi ha (be _)) (λ {a'} {r'} {ρ'} aD aC ar aB=>?_) Z L h;exact IH aD aC λ f0 a2 c e=>⟨dF (ar f0 a2 c e).1 aB,(ar f0 a2 c e).2⟩
   split at h
   .rename_i outs G;obtain⟨t1,t2⟩:=Fa Z.T Z.s hd;obtain⟨o,ho,A,h1,Y,h3,N⟩:=IH (a:=⟨(dI hd a.T a.s).1,(dI hd a.T a.s).2,a.k⟩) G ⟨Z.b,Z.k,t1,t2⟩ L;obtain⟨z,hz,D⟩:=sT h o ho;obtain⟨oe,oa⟩:=o;have N:aJ P gl _ n x (bG ρ (dI hd a.T a.s).1) (aX ρ (dI hd a.T a.s).2)=some (oe,bG A oa.T,aX A oa.s):=N;have ab:aJ P gl (vω P pol gl bset base) n (.loop hd x) (bG ρ a.T) (aX ρ a.s)=mY (aJ P gl (vω P pol gl bset base) n (.loop hd x)) (some (oe,bG A oa.T,aX A oa.s)):=by rw[iw,Ay,N]
    cases oe with
    |normal=>
     obtain⟨q,hq,u,k1,k2,k3,k4⟩:=IH hz h3 (B5 L h1 Y);refine⟨q,D q hq,u,h1.trans k1 Y,fX Y k2,k3,?_⟩;show aJ P gl _ n (.loop hd x) _ _=_;rw[ab];exact k4
    |exit j=>
     cases hz;refine⟨_,D _ (dp.2 rfl),A,h1,Y,h3,?_⟩;show aJ P gl _ n (.loop hd x) _ _=_;rw[ab];rfl
    |ret=>
     cases hz;refine⟨_,D _ (dp.2 rfl),A,h1,Y,h3,?_⟩;show aJ P gl _ n (.loop hd x) _ _=_;rw[ab];rfl
   cases h
end
section
variable{F:cZ}
variable{ρ ρ':bm}{C:eL}{P:Program}{gl:aM}{n:Nat}{pol:FuncId->eV}{bset:FuncId->Bool}{base:eH}
mutual
theorem aAC:∀{v:XV},W4 n v=true->bg n v
 |.sc _,_=>vF
 |.int k x c,h=>eD (kQ h)
 |.bs x,h=>FL (kQ h)
 |.ss x,h=>Nd (kQ h)
 |.sl x o,h=>sP (kQ h)
 |.sx es o,h=>λ ρ ρ' ha=>by show ae.sl (cL ρ es) o=.sl (cL ρ' es) o;rw[afo h ρ ρ' ha]
 |.ptr _ _ _,_=>λ _ _ _=>rfl
 |.rp cs o,h=>Gs (y9 h)
 |.ms _ _ _ _,_=>λ _ _ _=>rfl
 |.fn f cs,h=>ZS (y9 h)
 |.agg cs,h=>KN (y9 h)
 |.aL cs,h=>axN (y9 h)
 |.un,_=>λ _ _ _=>rfl
theorem y9:∀{v:List XV},vr n v=true->dk n v
 |[],_=>λ _ _ _=>rfl
 |v::l,h=>λ ρ ρ' ha=>by simp only[vr,aR]at h;show ev ρ v::aE ρ l=ev ρ' v::aE ρ' l;rw[aAC h.1 ρ ρ' ha,y9 h.2 ρ ρ' ha]
theorem afo:∀{v:List (List XV)},Iy n v=true->∀ρ ρ':bm,bY n ρ ρ'->cL ρ v=cL ρ' v
 |[],_=>λ _ _ _=>rfl
 |v::l,h=>λ ρ ρ' ha=>by simp only[Iy,aR]at h;show aE ρ v::cL ρ l=aE ρ' v::cL ρ' l;rw[y9 h.1 ρ ρ' ha,afo h.2 ρ ρ' ha]
end
def ajO{f:cq}(h:Br n f=true):f.bd n:=by
 cases f with
 |le a b c=>simp only[Br,aR]at h;exact⟨kQ h.1,kQ h.2⟩
 |sl x m c nm bs=>
  simp only[Br,aR,ij]at h;exact⟨kQ h.1.1,kQ h.1.2,λ p q=>kQ (h.2 p q)⟩
 |str x s=>exact kQ h
 |bb x b=>exact kQ h
 |el x i c cells=>simp only[Br,aR]at h;exact⟨kQ h.1.1,kQ h.1.2,y9 h.2⟩
 |sum z a b c=>simp only[Br,aR]at h;exact⟨kQ h.1.1,kQ h.1.2,kQ h.2⟩
 |pr k l=>
  simp only[Br,ij]at h;intro e u;have:=h e u;cases e<;>exact kQ this
def acM:∀(ks:List Nat) (i j:Nat),(qh i ks)[j]? =match ks[j]?with|some b=>some (some (match b with|0=>.int .i64 (i+j) 0|1=>.sl (i+j) none|2=>.bs (i+j)|_=>.ss (i+j)))|none=>none
 |[],i,j=>by simp[qh]
 |b::ks,i,0=>rfl
 |b::ks,i,j+1=>by
  show(qh (i+1) ks)[j]? =match ks[j]?with|some b=>some (some (match b with|0=>.int .i64 (i+(j+1)) 0|1=>.sl (i+(j+1)) none|2=>.bs (i+(j+1))|_=>.ss (i+(j+1))))|none=>none
  rw[acM ks (i+1) j,show i+1+j=i+(j+1) by omega]
def II:∀(ks:List Nat) (i:Nat),(qh i ks).length=ks.length
 |[],i=>rfl
 |b::ks,i=>by show(qh (i+1) ks).length+1=_;rw[II ks (i+1)];rfl
def aaq{f:Nat}{sf:Option (Nat×Nat×Int)}(H:XH P gl pol bset base {C with self:=sf} M)(hm:db P (pol f) f=some F)(hb:bset f=false)(K:Kl ct=true){outs:List (eE×XA)}{rs:List gP}
 (ho:ot {C with self:=sf} m f (ct.args.length+(F.n-ct.args.length)) 0 F.c ⟨oQ 0 ct.args,{w:=false,cur:=[],up:=[]},sG ct⟩=some outs)
 (hr:nv (AQ {w:=false,cur:=[],up:=[]} false F.r) outs=some rs) (ai:rs.all (λ r=>ct.outs.any (QB {C with self:=sf} ct.ks r.v r.k))=true)
 (h0:ρ 0=SV.z) (hn:OG ct.ks ρ) (af:∀f∈ct.pre,dL C.tb ρ f) (ak:yH {C with self:=sf} M ρ (sG ct)):
 ∃o∈ct.outs,∃ρ',bY (ct.ks.length+1) ρ ρ'/\(∀x,ct.ks.length+1+o.k<=x->ρ' x=SV.z)/\(∀S,vω P pol gl bset base f (aE ρ ct.args) S=some (ev ρ' o.res,S,false))/\∀f∈o.post,dL C.tb ρ' f:=by
 unfold Kl at K;rw[aR,aR,aR]at K;obtain⟨⟨⟨w1,w2⟩,w3⟩,w4⟩:=K;have N:(sG ct).nx=ct.ks.length+1:=rX;have ac:cB ({ls:=[],fs:=[],nx:=ct.ks.length+1}:XK):=⟨BH _,λ f D=>(by cases D),λ f D=>(by cases D)⟩;have an:bw C.tb ρ ({ls:=[],fs:=[],nx:=ct.ks.length+1}:XK):=⟨h0,λ f D=>(by cases D),λ f D=>(by cases D)⟩;have aq:cB (sG ct):=E6 ac λ f D=>ajO (ij.1 w2 f D)
 have am:bw C.tb ρ (sG ct):=Dq an af;have ap:dk (sG ct).nx ct.args:=by rw[N];exact y9 w1
 have aa:lC C.tb ρ ⟨oQ 0 ct.args,{w:=false,cur:=[],up:=[]},sG ct⟩:=⟨aq,am,aeD ap 0,λ _ _ _=>rfl⟩;obtain⟨o,al,ρ1,g1,g2,g3,g4⟩:=afp H m ho aa ak;obtain⟨x,q,ad⟩:=sT hr o al;have g1:bY (sG ct).nx ρ ρ1:=g1;rw[N]at g1;have g2:(sG ct).nx<=o.2.k.nx:=g2;rw[N]at g2;have g4:aJ P gl (vω P pol gl bset base) (ct.args.length+(F.n-ct.args.length)) F.c (bG ρ (oQ 0 ct.args)) (aX ρ _)=some (o.1,bG ρ1 o.2.T,aX ρ1 o.2.s):=g4;unfold AQ at q;have ag:∀j,o.1≠.exit j:=by intro j hj;rw[hj]at q;cases q
 have q:(match qc o.2.s o.2.T F.r with
  |some l=>some [(⟨sw l,[],{w:=false,cur:=[],up:=[]},.eP .clean,o.2.k⟩:gP)]
  |none=>none)=some x:=by
  cases y:o.1 with
  |exit j=>exact(ag j y).elim
  |normal=>rw[y]at q;exact q
  |ret=>rw[y]at q;exact q
 cases A:qc o.2.s o.2.T F.r;.rw[A]at q;cases q
 .rename_i l;rw[A]at q;cases q
  have ah:mW F.r (some (o.1,bG ρ1 o.2.T,aX ρ1 o.2.s))=some (ev ρ1 (sw l),(aX ρ1 o.2.s).up,o.2.s.w):=by
   have e1:=CA (ρ:=ρ1) o.2.s o.2.T F.r A;cases y:o.1 with
   |exit j=>exact(ag j y).elim
   |normal=>show(match jC (aX ρ1 o.2.s) (bG ρ1 o.2.T) F.r with|some l=>some (lD l,(aX ρ1 o.2.s).up,(aX ρ1 o.2.s).w)|none=>none)=_;rw[e1];simp only[DF];rfl
   |ret=>show(match jC (aX ρ1 o.2.s) (bG ρ1 o.2.T) F.r with|some l=>some (lD l,(aX ρ1 o.2.s).up,(aX ρ1 o.2.s).w)|none=>none)=_;rw[e1];simp only[DF];rfl
  have ab:bz P gl (vω P pol gl bset base) F (aE ρ ct.args) []=some (ev ρ1 (sw l),(aX ρ1 o.2.s).up,o.2.s.w):=by unfold bz;rw[yX,Dd,<-ah,<-g4];rfl
  have L:(aE ρ ct.args).any ae.open=false:=by
   rw[dz,any_map (λ a=>Q1 a)];cases h:ct.args.any XV.open;.rfl
   rw[h]at w3;cases w3
  have J:=ij.1 ai _ (ad _ (dp.2 rfl));rw[NA]at J;obtain⟨co,ao,u⟩:=J;unfold QB at u;split at u
  .rename_i E hE;rw[pI]at u;obtain⟨E',au⟩:=u
   have G:∀(j:Nat),j<ct.ks.length->∃v,(some (XV.int .i64 0 0)::qh 1 ct.ks++List.replicate co.k none)[j+1]? =some (some v)/\bg (ct.ks.length+1) v/\jO ρ1 (some v)=ρ (j+1):=by
    intro j hj;have Z:ct.ks[j]? =some ct.ks[j]:=cW hj;have e1:(some (XV.int .i64 0 0)::qh 1 ct.ks++List.replicate co.k none)[j+1]? =(qh 1 ct.ks)[j]? :=by show((qh 1 ct.ks)++List.replicate co.k none)[j]? =_;rw[xp (by rw[II];exact hj)]
    rw[e1,acM,Z];refine⟨_,rfl,?_,?_⟩
    .split;.exact eD (by omega)
     .exact sP (by omega)
     .exact FL (by omega)
     exact Nd (by omega)
    have ej:ρ1 (1+j)=ρ (j+1):=by rw[Vm 1 j];exact(g1 (j+1) (by omega)).symm
    split;.rename_i ac;rw[ac]at Z;have:=hn j Z;show SV.mk ((ρ1 (1+j)).i+0) _ _ _=_;rw[ej,iY,<-this]
    .exact ej
    .exact ej
    exact ej
   have ar:eY o.2.k.nx (some (XV.int .i64 0 0)::qh 1 ct.ks++List.replicate co.k none):=by
    intro x v q;cases x;.cases q;exact eD g3.b.z
    rename_i x;by_cases aj:x<ct.ks.length;.obtain⟨w,h1,h2,_⟩:=G x aj;rw[h1]at q;cases q;exact h2.mono g2
    have:(List.replicate co.k (none:Option XV))[x-(qh 1 ct.ks).length]? =some (some v):=by rw[<-xo (by rw[II];omega)];exact q
    have:=List.eq_of_mem_replicate (jm this);cases this
   obtain⟨a1,a2,a3⟩:=F9 g3.k ar (UE g3.s g3.T A) hE;obtain⟨b1,b2,b3⟩:=(zA H.tb cF).fs g3.b g3.k a2 au;have Y:=a1.trans b1;have av:E'.length=ct.ks.length+1+co.k:=by rw[<-Y.1];show((qh 1 ct.ks)++List.replicate co.k none).length+1=_;rw[dM,II,om];omega
   refine⟨co,ao,cg ρ1 E',λ x q=>?_,λ x q=>?_,λ S=>?_,b3 E' .rfl⟩
   .cases x;.rw[fG (Y.2 0 (.int .i64 0 0) rfl),h0];show _=SV.mk ((ρ1 0).i+0) _ _ _;rw[g3.k.z];rfl
    rename_i x;obtain⟨w,h1,_,h3⟩:=G x (by omega);rw[fG (Y.2 _ _ h1)];exact h3.symm
   .unfold cg aQ;rw[pJ,ma (by rw[aF];omega)];rfl
   rw[iU hm hb L ab];rw[a3 E' b1]
  cases u
def iZ.kV{Z7:cI}{tb:js}{c:Ct}{mo:Option (Int×Int)}(h:iZ Z7 tb g c none):iZ Z7 tb g c mo:=λ ρ h0 u q _=>h ρ h0 u q λ m lo e=>by cases e
def ZD{f:Nat}(S:kI C.tb)(Y:∀t,C.st t=true->P.underlying t=some .string)(ab:∀g F,C.fn g=some F->db P (pol g) g=some F/\bset g=false)(aa:∀g,C.ok g=true->cy P g=true)
 (ac:∀f' g c,C.ct f' g=some c->iZ (vω P pol gl bset base) C.tb g c none\/(g=f/\c=ct/\ct.dec.isSome=true))
 (hm:db P (pol f) f=some F) (hb:bset f=false) (y:L7 C m f F ct=true):iZ (vω P pol gl bset base) C.tb f ct none:=by
 unfold L7 at y;rw[aR]at y;obtain⟨D,y⟩:=y;split at y
 .rename_i outs u;split at y
  .rename_i rs Z;cases J:ct.dec
   .have H:XH P gl pol bset base {C with self:=match ct.dec with|some (x,c)=>some (f,x,c)|none=>none} 0:=by
     refine⟨S,Y,ab,aa,λ f' g c hc=>?_⟩;rcases ac f' g c hc with this|this
     .simp only[J];exact this
     rw[J]at this;exact absurd this.2.2 (by simp)
    intro ρ h0 L h _;exact aaq H hm hb D u Z y h0 L h (by intro f0 a c e;simp only[J]at e;cases e)
   rename_i p;obtain⟨x,lo⟩:=p;have A:=D;unfold Kl at A;rw[aR,J]at A;simp only[aR]at A;obtain⟨_,w5,w6⟩:=A;have q:(match ct.dec with|some (x,c)=>some (f,x,c)|none=>none)=some (f,x,lo):=by rw[J]
   have K:∀(k:Nat) (N:Int),(N-lo).toNat<=k->iZ (vω P pol gl bset base) C.tb f ct (some (N,lo)):=by
    intro k;induction k with
    |zero=>
     intro N hN ρ h0 L h G;obtain⟨x',l',e1,e2,e3⟩:=G N lo rfl;omega
    |succ k ih=>
     intro N hN ρ h0 L h G;obtain⟨x',l',e1,e2,e3⟩:=G N lo rfl;rw[J]at e1;cases e1
     have H:XH P gl pol bset base {C with self:=match ct.dec with|some (x,c)=>some (f,x,c)|none=>none} (ρ x).i:=by
      refine⟨S,Y,ab,aa,λ f' g c hc=>?_⟩;simp only[q];rcases ac f' g c hc with this|this
      .exact this.kV
      obtain⟨e1,e2,_⟩:=this;subst e1;rw[e2];have:Nat.beq g g=true:=nX g;rw[this];exact ih _ (by omega)
     refine aaq H hm hb D u Z y h0 L h λ f0 a c e=>?_
     have e:(match ct.dec with|some (x,c)=>some (f,x,c)|none=>none)=some (f0,a,c):=e;rw[q]at e;cases e;exact⟨by rw[show(sG ct).nx=ct.ks.length+1 from rX];exact kQ w5,rfl⟩
   intro ρ h0 L h _;have ad:bw C.tb ρ ({ls:=[],fs:=[],nx:=ct.ks.length+1}:XK):=⟨h0,λ f hf=>(by cases hf),λ f hf=>(by cases hf)⟩;have af:=dr (Dq ad h) w6;refine K _ ((ρ x).i+1) (be _) ρ h0 L h λ m' ae e=>?_
   cases e;refine⟨x,lo,J,by omega,?_⟩;have:(ρ 0).i=0:=by rw[h0];rfl
   omega
  cases y
 .cases y
end
section
variable{P:Program}{gl:aM}{pol:FuncId->eV}{bset:FuncId->Bool}{base:eH}
def ai0(f:Nat):Option Nat->Bool
 |none=>true
 |some f'=>Nat.beq f' f
abbrev wo:=Nat×Option Nat×Nat×Ct
def Fl(i f g:Nat):List wo->Option Ct
 |[]=>none
 |p::l=>match Nat.beq p.2.2.1 g&&ai0 f p.2.1 with
  |true=>(match Nat.blt p.1 i||(Nat.beq p.1 i&&p.2.2.2.dec.isSome)with|true=>some p.2.2.2|false=>none)
  |false=>Fl i f g l
def UY{f:Nat}:∀{l:List wo} {c:Ct},Fl i f g l=some c->∃p∈l,p.2.2.1=g/\p.2.2.2=c/\(p.1<i\/(p.1=i/\c.dec.isSome=true))
 |[],c,h=>by cases h
 |p::l,c,h=>by
  unfold Fl at h;split at h
  .rename_i y;rw[aR]at y;split at h
   .rename_i u;cases h;refine⟨p,cS,cU y.1,rfl,?_⟩;rw[nZ,aR]at u;rcases u with u|u
    .exact .inl (kQ u)
    exact .inr ⟨cU u.1,u.2⟩
   cases h
  obtain⟨q,A,D⟩:=UY h;exact⟨q,cz _ A,D⟩
def Bu{α:Type}(Q:α->Prop):List α->Prop
 |[]=>True
 |a::l=>Q a/\Bu Q l
def Bu.mem{Q:α->Prop}:∀{l:List α},Bu Q l->∀a∈l,Q a
 |[],_,a,h=>by cases h
 |b::l,h,a,q=>by
  rcases ck.1 q with rfl|q
  .exact h.1
  exact h.2.mem a q
def Gz:List wo->Bool
 |[]=>true
 |p::l=>l.all (λ q=> !(Nat.beq p.1 q.1))&&Gz l
def agI:∀{l:List wo},Gz l=true->∀p∈l,∀q∈l,p.1=q.1->p=q
 |[],_,p,A,_,_,_=>by cases A
 |a::l,h,p,A,q,D,e=>by
  unfold Gz at h;rw[aR,ij]at h;rcases ck.1 A with y|y<;>rcases ck.1 D with u|u
  .rw[y,u]
  .subst y;have:=h.1 q u;rw[e,nX]at this;cases this
  .subst u;have:=h.1 p y;rw[e,nX]at this;cases this
  exact agI h.2 p y q u e
def U9(P:Program)(gl:aM)(pol:FuncId->eV)(bset:FuncId->Bool)(base:eH)(tb:js)(l:List wo)(p:wo):Prop:=
 iZ (vω P pol gl bset base) tb p.2.2.1 p.2.2.2 none\/
 ∃(C:eL) (F:cZ) (m:Nat),C.tb=tb/\C.ct=(λ f g=>Fl p.1 f g l)/\(∀t,C.st t=true->P.underlying t=some .string)/\(∀g F,C.fn g=some F->db P (pol g) g=some F/\bset g=false)/\(∀g,C.ok g=true->cy P g=true)/\db P (pol p.2.2.1) p.2.2.1=some F/\bset p.2.2.1=false/\L7 C m p.2.2.1 F p.2.2.2=true
def azL{tb:js}(N:kI tb){l:List wo}(S:Gz l=true)(h:Bu (U9 P gl pol bset base tb l) l):∀p∈l,iZ (vω P pol gl bset base) tb p.2.2.1 p.2.2.2 none:=by
 have D:∀(i:Nat) (p:wo),p∈l->p.1<i->iZ (vω P pol gl bset base) tb p.2.2.1 p.2.2.2 none:=by
  intro i;induction i with
  |zero=>intro p _ y;omega
  |succ i L=>
   intro p y hi;rcases h.mem p y with Y|⟨C,F,m,e1,e2,e3,e4,e5,e6,e7,Z⟩
   .exact Y
   subst e1;refine ZD N e3 e4 e5 (λ f' g c K=>?_) e6 e7 Z;rw[e2]at K;obtain⟨q,J,G,A,u⟩:=UY K;rcases u with u|u
   .subst G A;exact .inl (L q J (by omega))
   have:=agI S q J p y u.1;subst this;exact .inr ⟨G.symm,A.symm,by rw[A];exact u.2⟩
 exact λ p y=>D (p.1+1) p y (iW _)
end
end
end Go.Abs
