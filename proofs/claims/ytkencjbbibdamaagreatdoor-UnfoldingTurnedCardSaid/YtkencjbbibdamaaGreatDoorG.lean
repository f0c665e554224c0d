/- The symbolic machine: its soundness. -/
import Derived.Test.YtkencjbbibdamaaGreatDoorF
set_option linter.all false
namespace Go.Abs
noncomputable section
open Go
variable{I:Inv}{M:Int}{SI:bm->XK->Prop}{U:List (Nat×List (Nat×List XV))}{a:XA}{Z9:List (Nat×Int)}{cl:Nat->List XV->XS->XK->Option (List gP)}{cs refs:List XV}{ct:Ct}{e:pj}{g i m n nm sz:Nat}{l:List gP}{r:XV×XK}{v:XV}{α:Type}{σ:Sub}
section
variable{l:List SV}
variable{ρ ρ':bm}{C:eL}{K K':XK}
mutual
theorem QU{n:Nat}{σ:Sub}(h:fp n σ)(hn:0<n):∀v:XV,bg n (oD σ v)
 |.sc _=>vF
 |.int k x c=>eD (h.num hn x)
 |.bs x=>FL (h.sym hn x)
 |.ss x=>Nd (h.sym hn x)
 |.sl x o=>sP (h.sym hn x)
 |.sx es o=>λ ρ ρ' ha=>by show ae.sl (cL ρ (tK σ es)) o=.sl (cL ρ' (tK σ es)) o;rw[Xu h hn es ρ ρ' ha]
 |.ptr _ _ _=>λ _ _ _=>rfl
 |.rp cs off=>λ ρ ρ' ha=>by show ae.rp (aE ρ (gp σ cs)) off=.rp (aE ρ' (gp σ cs)) off;rw[vN h hn cs ρ ρ' ha]
 |.ms _ _ _ _=>λ _ _ _=>rfl
 |.fn f cs=>λ ρ ρ' ha=>by show ae.fn f (aE ρ (gp σ cs))=.fn f (aE ρ' (gp σ cs));rw[vN h hn cs ρ ρ' ha]
 |.agg cs=>λ ρ ρ' ha=>by show ae.agg (aE ρ (gp σ cs))=.agg (aE ρ' (gp σ cs));rw[vN h hn cs ρ ρ' ha]
 |.aL cs=>λ ρ ρ' ha=>by show ae.aL (aE ρ (gp σ cs))=.aL (aE ρ' (gp σ cs));rw[vN h hn cs ρ ρ' ha]
 |.un=>λ _ _ _=>rfl
theorem vN{n:Nat}{σ:Sub}(h:fp n σ)(hn:0<n):∀v:List XV,dk n (gp σ v)
 |[]=>λ _ _ _=>rfl
 |v::l=>λ ρ ρ' ha=>by show ev ρ (oD σ v)::aE ρ (gp σ l)=ev ρ' (oD σ v)::aE ρ' (gp σ l);rw[QU h hn v ρ ρ' ha,vN h hn l ρ ρ' ha]
theorem Xu{n:Nat}{σ:Sub}(h:fp n σ)(hn:0<n):∀v:List (List XV),∀ρ ρ':bm,bY n ρ ρ'->cL ρ (tK σ v)=cL ρ' (tK σ v)
 |[]=>λ _ _ _=>rfl
 |v::l=>λ ρ ρ' ha=>by show aE ρ (gp σ v)::cL ρ (tK σ l)=aE ρ' (gp σ v)::cL ρ' (tK σ l);rw[vN h hn v ρ ρ' ha,Xu h hn l ρ ρ' ha]
end
theorem Sx(h:fp n σ)(y:0<n)(f:cq):(Eb σ f).bd n:=by
 cases f with
 |le a b c=>exact⟨h.num y a,h.num y b⟩
 |sl x m c nm bs=>exact⟨h.sym y x,h.num y m,λ p D=>by obtain⟨q,_,rfl⟩:=eK.1 D;exact h.num y q.1⟩
 |str x s=>exact h.sym y x
 |bb x b=>exact h.sym y x
 |el x i c cells=>exact⟨h.sym y x,h.num y i,vN h y cells⟩
 |sum z a b c=>exact⟨h.num y z,h.num y a,h.num y b⟩
 |pr k l=>
  intro e F;obtain⟨G,_,rfl⟩:=eK.1 F;cases G with
  |i x c=>exact h.num y x
  |s x=>
   show tL n (match σ[x]?with|some e=>e|none=>.i 0 0);cases A:σ[x]?;.exact y
   rename_i e;have:=h e (jm A);cases e<;>exact this
theorem Jp:∀(m i j:Nat),(cN m i)[j]? =if j<m then some (.s (i+j))else none
 |0,i,j=>by rw[aj (by omega)];rfl
 |m+1,i,0=>by rw[ao (by omega)];rfl
 |m+1,i,j+1=>by show(cN m (i+1))[j]? =_;rw[Jp m (i+1) j];grind
def Mi:∀(m i:Nat),fp (i+m) (cN m i)
 |0,i=>λ e h=>by cases h
 |m+1,i=>fp.cons (s:=.s i) (show i<i+(m+1) by omega) ((Mi m (i+1)).mono (by omega))
theorem RN(a b:List SV)(x:Nat):aQ (a++b) x=if x<a.length then a.getD x SV.z else aQ b (x-a.length):=by grind[aQ]
def XQ{a b c:List SV}(h:aQ b=aQ c):aQ (a++b)=aQ (a++c):=by funext x;rw[RN,RN,h]
def more(ρ:bm)(n:Nat)(l:List SV):bm:=λ x=>if x<n then ρ x else l.getD (x-n) SV.z
def Vc:bY n ρ (more ρ n l):=λ x h=>by show _=if x<n then _ else _;rw[ao h]
theorem az0(q:l.length<=m):aQ ((cN m n).map (dS (more ρ n l)))=aQ l:=by
 funext x;unfold aQ;rw[pJ,bM,Jp,pJ];by_cases h:x<m;.rw[ao h];show(more ρ n l (n+x))=_;show(if n+x<n then _ else l.getD (n+x-n) SV.z)=_;grind
 grind
theorem Oz(A:cB K){i:Nat×Int}{cells:List XV}(G:∀p∈Z9,p.1<K.nx)(hi:i.1<K.nx)(h:Bg C K nm Z9 i=some (cells,K')):
 K.nx<=K'.nx/\cB K'/\dk K'.nx cells/\∃d,C.tb.td nm=some d/\cells.length=d.cells.length:=by
 unfold Bg at h;split at h
 .rename_i d F;split at h
  .rename_i N;cases h;have q:K.nx<=K.nx+(d.k-d.p- 2):=VC _ _;have y:fp (K.nx+(d.k-d.p- 2)) (.i 0 0::Z9.map (λ p=>.i p.1 p.2)++.i i.1 i.2::cN (d.k-d.p- 2) K.nx):=by have L:=A.z;refine fp.append (fp.cons (s:=.i 0 0) (show 0<_ by omega) λ e S=>?_) (fp.cons (s:=.i i.1 i.2) (show i.1<_ by omega) (Mi _ _));grind
   have D:0<K.nx+(d.k-d.p- 2):=dF A.z q;refine⟨by rw[rX];exact q,E6 (Mb A q) λ f P=>?_,by rw[rX];exact vN y D _,d,F,?_⟩;.grind[Sx]
   have:∀l:List XV,(gp (.i 0 0::Z9.map (λ p=>SE.i p.1 p.2)++.i i.1 i.2::cN (d.k-d.p- 2) K.nx) l).length=l.length:=by
    intro l;induction l with
    |nil=>rfl
    |cons v l J=>grind[gp]
   exact this _
  cases h
 .cases h
theorem PS(N:kI C.tb)(J:cB K)(G:bw C.tb ρ K){i:Nat×Int}{cells:List XV}{e:List ae}(D:∀p∈Z9,p.1<K.nx)(hi:i.1<K.nx)(h:Bg C K nm Z9 i=some (cells,K'))
 (P:dX C.tb nm (Z9.map (b8 ρ)) (b8 ρ i) e):∃ρ',bY K.nx ρ ρ'/\bw C.tb ρ' K'/\e=aE ρ' cells:=by
 unfold Bg at h;split at h
 .rename_i d Y;split at h
  .rename_i F;cases h;obtain⟨_,env,Z,h2,h3,h4⟩:=(yP N Y).1 P
   let rest:=env.drop (d.p+2)
   have y:rest.length<=d.k-d.p- 2:=by grind
   have q:bY K.nx ρ (more ρ K.nx rest):=Vc;have L:more ρ K.nx rest 0=SV.z:=MU J.z q G.z;have S:bw C.tb (more ρ K.nx rest) K:=G.nh J q
   have A:pull (more ρ K.nx rest) (.i 0 0::Z9.map (λ p=>.i p.1 p.2)++.i i.1 i.2::cN (d.k-d.p- 2) K.nx)=aQ env:=by
    unfold pull;rw[Z];rw[mT,fL,fL,ko,ko];have e1:dS (more ρ K.nx rest) (.i 0 0)=SV.z:=by show SV.mk _ _ _ _=_;rw[L];rfl
    have e2:Z9.map (dS (more ρ K.nx rest)∘λ p=>SE.i p.1 p.2)=Z9.map ((λ n=>(⟨n,false,[],[]⟩:SV))∘b8 ρ):=by
     refine kX λ p F=>?_
     show SV.mk _ _ _ _=SV.mk _ _ _ _;rw[<-q p.1 (D p F)];rfl
    have e3:dS (more ρ K.nx rest) (.i i.1 i.2)=⟨b8 ρ i,false,[],[]⟩:=by show SV.mk _ _ _ _=_;rw[<-q i.1 hi];rfl
    rw[e1,e2,e3];refine XQ ?_;show aQ ([_]++_)=aQ ([_]++_);exact XQ (az0 y)
   grind[Dq,KL,RY,wP]
  cases h
 .cases h
def anP{E A:bk}(h:kG E A)(D:∀x,x<n->∃v,E[x]? =some (some v)):A.take n=E.take n:=by
 refine xr λ x=>?_
 rw[qw,qw];by_cases q:x<n;.rw[ao q,ao q];obtain⟨v,y⟩:=D x q;rw[y,h.2 x v y]
 rw[aj q,aj q]
structure apE (C:eL) (m:Nat):Prop where
 f:∀{K:XK} {ρ:bm} {f:cq} {E E':bk},cB K->bw C.tb ρ K->eY K.nx E->Nn C K m f E=some E'->lV C.tb ρ K.nx E E' λ r=>dL C.tb r f
 fs:∀{K:XK} {ρ:bm} {l:List cq} {E E':bk},cB K->bw C.tb ρ K->eY K.nx E->uS C K m l E=some E'->lV C.tb ρ K.nx E E' λ r=>∀f∈l,dL C.tb r f
 el:∀{K:XK} {ρ:bm} {nm:Nat} {Z9:List (Nat×Int)} {i:Nat×Int} {cells:List XV},cB K->bw C.tb ρ K->(∀p∈Z9,p.1<K.nx)->i.1<K.nx->dk K.nx cells->Ba C K m nm Z9 i cells=true->dX C.tb nm (Z9.map (b8 ρ)) (b8 ρ i) (aE ρ cells)
 els:∀{K:XK} {ρ:bm} {nm:Nat} {Z9:List (Nat×Int)} {i:Nat} {es:List (List XV)},cB K->bw C.tb ρ K->(∀p∈Z9,p.1<K.nx)->(∀e∈es,dk K.nx e)->elems C K m nm Z9 i es=true->∀j e,es[j]? =some e->dX C.tb nm (Z9.map (b8 ρ)) ((i+j:Nat):Int) (aE ρ e)
 sub:∀{K:XK} {ρ:bm} {n' nm nm':Nat} {c':Int} {Z9 as':List (Nat×Int)},cB K->bw C.tb ρ K->(∀p∈Z9,p.1<K.nx)->(∀p∈as',p.1<K.nx)->n'<K.nx->KA C K m n' c' nm' as' nm Z9=true->∀(j:Int) e,0<=j->j<(ρ n').i+c'->dX C.tb nm' (as'.map (b8 ρ)) j e->dX C.tb nm (Z9.map (b8 ρ)) j e
def tU(q:bw C.tb ρ K){f:cq}(h:f∈K.fs):dL C.tb ρ f:=q.fs f h
theorem Jw{l:List α}{e:α}(h:l[i]? =some e):i<l.length:=by grind
theorem zA(ht:kI C.tb):∀m,apE C m
 |0=>⟨λ _ _ _ h=>(by unfold Nn at h;cases h),λ _ _ _ h=>(by unfold uS at h;cases h),λ _ _ _ _ _ h=>(by unfold Ba at h;cases h),λ _ _ _ _ h=>(by unfold elems at h;cases h),λ _ _ _ _ _ h=>(by unfold KA at h;cases h)⟩
 |m+1=>by
  have ih:=zA ht m;refine⟨?_,?_,?_,?_,?_⟩
  .intro K ρ f E E' F A P h;unfold Nn at h;cases f with
   |le a b c=>
    simp only at h;split at h
    .rename_i x d y e h1 h2;split at h;.rename_i ab;cases h;refine⟨.rfl,P,λ G D=>?_⟩;have e1:=tI (ρ:=ρ) h1 D;have e2:=tI (ρ:=ρ) h2 D;have e3:=dr A ab;unfold b8 at e1 e2;show(cg ρ G a).i<=(cg ρ G b).i+c;simp only at e1 e2;omega
     cases h
    cases h
   |bb x b=>
    simp only at h;split at h
    .rename_i b' L;split at h;.rename_i e;cases h;refine⟨.rfl,P,λ G D=>?_⟩;show(cg ρ G x).b=b;rw[fG (D.2 _ _ (kS L)),e];rfl
     cases h
    .rename_i y L;split at h
     .rename_i b' k' hv;split at h;.rename_i e;cases h;refine⟨.rfl,P,λ G D=>?_⟩;show(cg ρ G x).b=b;rw[fG (D.2 _ _ (kS L))];obtain⟨_,r,hr,ρ',_,_,hp⟩:=JK F A (P _ _ (kS L)).bs;rw[hv,dp]at hr;subst hr;show(ρ y).b=b;rw[<-hp,e]
      cases h
     cases h
    cases h
   |str x set=>
    simp only at h;split at h
    .rename_i s L;split at h;.rename_i e;cases h;refine⟨.rfl,P,λ G D=>?_⟩;show(cg ρ G x).s∈set;rw[fG (D.2 _ _ (kS L))];exact aBd e
     cases h
    .rename_i y L;split at h
     .rename_i l hl;split at h;.rename_i e;cases h;refine⟨.rfl,P,λ G D=>?_⟩;show(cg ρ G x).s∈set;rw[fG (D.2 _ _ (kS L))];have h1:(ρ y).s∈l:=tU A (awa hl);unfold agN at e;rw[ij]at e;exact aBd (e _ h1)
      cases h
     cases h
    cases h
   |el x i c cells=>
    simp only at h;split at h
    .rename_i y o j d L hj;split at h;.rename_i vs hv;have hm:=SH hv;have N:=F.fs _ hm;obtain⟨a1,a2,a3⟩:=Bt A P N.2.2 h;refine⟨a1,a2,λ G D=>?_⟩;obtain⟨q,q1,q2⟩:=tU A hm;have e1:=tI (ρ:=ρ) hj (a1.trans D);unfold b8 at e1;refine⟨q,by rw[<-q1];exact e1,?_⟩;rw[fG ((a1.trans D).2 _ _ (kS L)),a3 G D];exact q2
     cases h
    cases h
   |sum z a b c=>cases h
   |pr k l=>
    simp only at h;split at h
    .rename_i l' hl;split at h
     .rename_i S;cases h;refine⟨.rfl,P,λ G D=>?_⟩;obtain⟨e1,e2⟩:=Wk A F P D hl;show C.tb.pr k (l.map (dS (cg ρ G)));rw[e1];rw[nZ]at S;rcases S with S|S
      .exact anE A S
      exact WR ht A F (f:=.pr k l') e2 S
     cases h
    cases h
   |sl x n c nm Z9=>
    simp only at h;split at h
    .rename_i y o L;split at h
     .rename_i n' c' ao an hs;have hm:=qm hs;have N:=F.fs _ hm;have hf:=tU A hm;split at h
      .rename_i E1 h1;split at h
       .rename_i bs h2;split at h
        .rename_i S;cases h;obtain⟨a1,a2,a3⟩:=DG A P N.2.1 h1;refine⟨a1,a2,λ G D=>?_⟩;have ex:cg ρ G x=ρ y:=fG ((a1.trans D).2 _ _ (kS L));refine⟨?_,λ i e J=>?_⟩;.rw[ex,a3 G D];exact hf.1
         rw[ex]at J;rw[Oo D h2];have ai:=hf.2 i e J;rw[nZ,nZ]at S;rcases S with(S|S)|hd
         .grind[Nat.eq_of_beq_eq_true,acz]
         .refine ih.sub F A (KK a2 h2) N.2.2 N.2.1 S i e (Int.natCast_nonneg _) ?_ ai;have:=Jw J;have:=hf.1;omega
         exact(WR ht A F (f:=.sl y n' c' nm bs) ⟨N.1,N.2.1,KK a2 h2⟩ hd).2 i e J
        cases h
       cases h
      cases h
     cases h
    .rename_i es o L;split at h
     .rename_i E1 h1;split at h
      .rename_i bs h2;split at h
       .rename_i S;cases h;obtain⟨a1,a2,a3⟩:=DG A P F.z h1;refine⟨a1,a2,λ G D=>?_⟩;have ex:cg ρ G x=⟨0,false,[],cL ρ es⟩:=fG ((a1.trans D).2 _ _ (kS L));have hz:(ρ 0).i=0:=by rw[A.z];rfl
        refine⟨?_,λ i e J=>?_⟩;.grind[ly]
        rw[ex]at J;have J:(cL ρ es)[i]? =some e:=J;rw[Oo D h2];rw[ly,bM]at J;cases Y:es[i]?;.rw[Y]at J;cases J
        rename_i e0;rw[Y]at J;cases J;have:=ih.els F A (KK a2 h2) (P _ _ (kS L)).sx S i e0 Y;grind
       cases h
      cases h
     cases h
    cases h
  .intro K ρ l E E' F A P h;unfold uS at h;cases l;.cases h;exact⟨.rfl,P,λ _ _ f hf=>by cases hf⟩
   rename_i f l;simp only at h;split at h
   .rename_i E1 h1;obtain⟨a1,a2,a3⟩:=ih.f F A P h1;obtain⟨b1,b2,b3⟩:=ih.fs F A a2 h;refine⟨a1.trans b1,b2,λ G D g hg=>?_⟩;rcases ck.1 hg with rfl|hg
    .exact a3 G (b1.trans D)
    exact b3 G D g hg
   cases h
  .intro K ρ nm Z9 i cells F A Z hi ac h;unfold Ba at h;split at h
   .rename_i d hd;split at h
    .rename_i hp;split at h
     .rename_i E h1;have av:eY K.nx (some (.int .i64 0 0)::Z9.map (λ p=>some (XV.int .i64 p.1 p.2))++some (.int .i64 i.1 i.2)::List.replicate (d.k-d.p- 2) none):=by intro x v L;grind[eD]
      obtain⟨a1,a2,a3⟩:=Bt A av ac h1;rw[pI]at h;obtain⟨E',h2⟩:=h;obtain⟨b1,b2,b3⟩:=ih.fs F A a2 h2;have ab:=a1.trans b1;have ax:=(ht.1 nm d hd).2;refine(yP ht hd).2 ⟨by rw[aF];exact hp,E'.map (jO ρ),?_,?_,(a3 E' b1).symm,b3 E' .rfl⟩
      .have af:E'.take (d.p+2)=some (XV.int .i64 0 0)::Z9.map (λ p=>some (XV.int .i64 p.1 p.2))++[some (.int .i64 i.1 i.2)]:=by
        rw[anP ab]
        .show List.take (d.p+2) ((some (XV.int .i64 0 0)::Z9.map (λ p=>some (XV.int .i64 p.1 p.2)))++(some (.int .i64 i.1 i.2)::List.replicate (d.k-d.p- 2) none))=_;have ad:(some (XV.int .i64 0 0)::Z9.map (λ p=>some (XV.int .i64 p.1 p.2))).length=d.p+1:=by grind
         rw[List.take_append,ad,mB (by rw[ad];omega)];rw[show d.p+2-(d.p+1)=1 by omega];rfl
        grind
       have aa:E'.map (jO ρ)=(E'.take (d.p+2)).map (jO ρ)++(E'.map (jO ρ)).drop (d.p+2):=by grind[List.map_drop,List.take_append_drop]
       have hz:jO ρ (some (.int .i64 0 0))=SV.z:=by show SV.mk _ _ _ _=_;rw[A.z];rfl
       have hm:(Z9.map (λ p=>some (XV.int .i64 p.1 p.2))).map (jO ρ)=(Z9.map (b8 ρ)).map (λ n=>⟨n,false,[],[]⟩):=by rw[ko,ko];rfl
       conv=>lhs;rw[aa]
       rw[af,mT,fL,hz,hm];show _++[_]++_=_;rw[vH];rfl
      rw[aF,<-ab.1,dM,cD,cD,aF,om,hp];omega
     cases h
    cases h
   cases h
  .intro K ρ nm Z9 i es F A Z Y h j e J;unfold elems at h;cases es;.simp at J
   rename_i e0 es;simp only at h;rw[aR]at h;cases j
   .simp at J;subst J;have:=ih.el F A Z (i:=(0,(i:Int))) F.z (Y _ cS) h.1;have hz:(ρ 0).i=0:=by rw[A.z];rfl
    grind[b8]
   rename_i j;have J:es[j]? =some e:=by simpa using J
   have:=ih.els F A Z (λ e' h'=>Y e' (cz _ h')) h.2 j e J;grind
  intro K ρ n' nm ao c' Z9 an F A Z am hn h j e h0 h1 hs;unfold KA at h;split at h
  .rename_i cells K' hi
   let ρ1:=nV ρ K.nx j
   have ag:bY K.nx ρ ρ1:=uF;have ej:(ρ1 K.nx).i=j:=vo;have en:ρ1 n'=ρ n':=(ag n' hn).symm;have ap:(ρ1 0).i=0:=by rw[<-ag 0 F.z,A.z];rfl
   have au:bw C.tb ρ1 K:=A.nh F ag;have hl:K.nx<K.new.nx:=iW _;have ar:0<K.new.nx:=BH _;have aq:n'<K.new.nx:=iq hn;have al:cB ((K.new.add 0 0 K.nx 0).add K.nx 1 n' c'):=iC (iC (oH F) ar hl) hl aq;have aj:bw C.tb ρ1 ((K.new.add 0 0 K.nx 0).add K.nx 1 n' c'):=gL (gL (pa au) (by rw[ej,ap];omega)) (by rw[ej,en];omega);have ae:∀p∈an,p.1<((K.new.add 0 0 K.nx 0).add K.nx 1 n' c').nx:=λ p hp=>iq (am p hp)
   have ak:∀p∈Z9,p.1<((K.new.add 0 0 K.nx 0).add K.nx 1 n' c').nx:=λ p hp=>iq (Z p hp)
   obtain⟨q1,q2,q3,_⟩:=Oz al ae hl hi;have aw:b8 ρ1 (K.nx,0)=j:=by show(ρ1 K.nx).i+0=j;rw[ej,iY]
   obtain⟨ah,g1,g2,g3⟩:=PS ht al aj ae hl hi (e:=e) (by grind[uN]);have:=ih.el q2 g2 (λ p hp=>dF (ak p hp) q1) (i:=(K.nx,0)) (dF hl q1) q3 h;rw[<-g3]at this;have e1:Z9.map (b8 ah)=Z9.map (b8 ρ):=((uN ag Z).trans (uN g1 ak)).symm;have e2:b8 ah (K.nx,0)=j:=by rw[<-Hw g1 (p:=(K.nx,0)) hl];exact aw
   grind
  cases h
end
section
variable{es:List (List XV)}{hi lo:Option XV}{j t:Nat}{l:aS}{str:Bool}
variable{ρ ρ':bm}{C:eL}{K K':XK}{P:Program}
def RD{n:Int}(h:0<=n):∃j:Nat,n=j:=⟨n.toNat,(Int.toNat_of_nonneg h).symm⟩
def xY{k:IntKind}{n:Int}(h:n=j):AJ (.sc (.int k n))=some j:=by subst h;rfl
def Gs{o:Nat}(h:dk n cs):bg n (.rp cs o):=λ ρ ρ' q=>by show ae.rp _ _=.rp _ _;rw[h ρ ρ' q]
theorem KN(h:dk n cs):bg n (.agg cs):=λ ρ ρ' q=>by show ae.agg _=.agg _;rw[h ρ ρ' q]
def axN(h:dk n cs):bg n (.aL cs):=λ ρ ρ' q=>by show ae.aL _=.aL _;rw[h ρ ρ' q]
def ZS{f:Nat}(h:dk n cs):bg n (.fn f cs):=λ ρ ρ' q=>by show ae.fn _ _=.fn _ _;rw[h ρ ρ' q]
theorem GL{o:Option Nat}(h:∀e∈es,dk n e):bg n (.sx es o):=λ ρ ρ' y=>by show ae.sl _ _=.sl _ _;rw[ly,ly,kX λ e q=>h e q ρ ρ' y]
theorem yX(l:List XV):(aE ρ l).length=l.length:=by rw[dz,aF]
theorem Cy(l:List (List XV)):(cL ρ l).length=l.length:=by rw[ly,aF]
abbrev asT(sl:Option Nat)(h:Option (Nat×Nat))(x ix:ae):bm->XV->Prop:=λ ρ' v=>mP sl h x ix=some (ev ρ' v)
theorem arh(ht:kI C.tb)(F:cB K)(D:bw C.tb ρ K){sl:Option Nat}{ar:Option (Nat×Nat)}{x ix:XV}{l:List (XV×XK)}(hx:bg K.nx x)(hi:bg K.nx ix)(h:TV C K sl ar x ix=some l):
 gu C.tb ρ K bg (asT sl ar (ev ρ x) (ev ρ ix)) l:=by
 have Z:(ρ 0).i=0:=by rw[D.z];rfl
 unfold TV at h;split at h
 .rename_i y o k i c;split at h
  .rename_i sz n d nm Z9 hs;split at h
   .rename_i N;rw[aR]at N;have h1:=dr D N.1;have h2:=dr D N.2;rw[Z]at h1;obtain⟨j,S⟩:=RD (show 0<=(ρ i).i+c by omega);have hm:=qm hs;have hf:=tU D hm;have ac:=F.fs _ hm;have A:j<(ρ y).l.length:=by have:=hf.1;omega
    have L:(ρ y).l[j]? =some (ρ y).l[j]:=cW A;have xH:∀e:List ae,(ρ y).l[j]? =some e->e.length=sz->mP (some sz) ar (.sl (ρ y).l o) (.sc (.int k ((ρ i).i+c)))=some (.rp e 0):=by intro e L J;unfold mP;rw[xY S];simp only[L,ao J]
    split at h
    .rename_i cells af;split at h
     .rename_i J;cases h;have aa:=SH af;obtain⟨q,q1,q2⟩:=tU D aa;have:q=j:=by omega
      subst this;refine iI F (Gs (F.fs _ aa).2.2) D ?_;exact xH _ q2 (by rw[yX];exact J)
     cases h
    split at h
    .rename_i cells K' ab;split at h
     .rename_i J;cases h;have ad:b8 ρ (i,c)=j:=S;obtain⟨q1,q2,q3,_⟩:=Oz F ac.2.2 hi.int ab;obtain⟨Y,g1,g2,g3⟩:=PS ht F D ac.2.2 hi.int ab (e:=(ρ y).l[j]) (by rw[ad];exact hf.2 j _ L);refine qH (ρ':=Y) (by rw[pM];exact q1) (wF q2 ⟨dF hx.sl q1,dF hi.int q1,q3⟩) (by rw[pM];exact Gs q3) g1 (xk g2 ⟨j,?_,?_⟩) ?_;.rw[<-g1 i hi.int];exact S
      .rw[<-g1 y hx.sl,L,g3]
      show mP _ _ _ _=some (ae.rp (aE Y cells) 0);rw[<-g3];exact xH _ L (by rw[g3,yX];exact J)
     cases h
    cases h
   cases h
  cases h
 .rename_i es o k i c;split at h
  .rename_i sz;have xH:∀(j:Nat) (e:List XV),(ρ i).i+c=j->es[j]? =some e->e.length=sz->mP (some sz) ar (.sl (cL ρ es) o) (.sc (.int k ((ρ i).i+c)))=some (.rp (aE ρ e) 0):=by intro j e S L J;unfold mP;rw[xY S];grind[ly,yX]
   split at h
   .rename_i G;have G:=cU G;subst G;split at h
    .rename_i j;split at h
     .rename_i e L;split at h;.rename_i J;cases h;exact iI F (Gs (hx.sx e (jm L))) D (xH j e (by rw[Z];simp) L J)
      cases h
     cases h
    cases h
   split at h
   .rename_i N;rw[aR,aR]at N;cases h;have h1:=dr D N.1.1;have h2:=dr D N.1.2;rw[Z]at h1 h2;obtain⟨j,S⟩:=RD (show 0<=(ρ i).i+c by omega);have A:j<es.length:=by omega
    refine⟨λ r hr=>?_,(.rp es[j] 0,(K.add i c 0 j).add 0 j i c),?_,ρ,.rfl,gL (gL D (by omega)) (by omega),?_⟩;.obtain⟨p,hp,rfl⟩:=eK.1 hr;refine⟨be _,iC (iC F hi.int F.z) F.z hi.int,?_⟩;have:p.1∈es:=aBe hp;exact Gs (hx.sx _ this)
    .refine eK.2 ⟨(es[j],j),?_,rfl⟩;grind
    have J:=(ij.1 N.2) es[j] (xC A);exact xH j _ S (cW A) (by simpa using J)
   cases h
  cases h
 .rename_i d k off ki i c;split at h
  .rename_i n sz;split at h
   .rename_i G;have G:=cU G;subst G;split at h
    .rename_i j;split at h;.rename_i A;cases h;refine iI F (λ _ _ _=>rfl) D ?_;show mP _ _ (.ptr d k off) (.sc (.int ki ((ρ 0).i+Int.ofNat j)))=_;unfold mP;rw[xY (j:=j) (by rw[Z];simp)];simp only[ao A];rfl
     cases h
    cases h
   cases h
  cases h
 .rename_i cs off ki i c;split at h
  .rename_i n sz;split at h
   .rename_i G;have G:=cU G;subst G;split at h
    .rename_i j;split at h
     .rename_i A;cases h;refine iI F (λ ρ ρ' ha=>?_) D ?_;.have:=hx ρ ρ' ha;grind[ev]
      show mP _ _ (.rp (aE ρ cs) off) (.sc (.int ki ((ρ 0).i+Int.ofNat j)))=_;unfold mP;rw[xY (j:=j) (by rw[Z];simp)];simp only[ao A];rfl
     cases h
    cases h
   cases h
  cases h
 .cases h
def atJ(F:∀t,C.st t=true->P.underlying t=some .string)(q:cB K)(A:bw C.tb ρ K){sl:Bool}{x:XV}(L:bg K.nx x)(h:Uk C K sl t x=some r):
 gu C.tb ρ K bg (λ ρ' v=>yc P sl t (ev ρ x)=some (ev ρ' v)) [r]:=by
 have D:(ρ 0).i=0:=by rw[A.z];rfl
 unfold Uk at h;split at h
 .rename_i s;split at h;.rename_i e;cases h;refine iI q (eD q.z) A ?_;show(match dD P t (.str s)with|some r=>kx r|none=>none)=some (ae.sc (.int .i64 ((ρ 0).i+s.length)));rw[D,xD];unfold dD;rw[F t e];rfl
  cases h
 .rename_i es o;split at h;.cases h;refine iI q (eD q.z) A ?_;show some (ae.sc (.int .i64 ((cL ρ es).length:Nat)))=some (.sc (.int .i64 ((ρ 0).i+es.length)));rw[D,xD,Cy]
  cases h
 .rename_i y o;split at h;.rename_i n c nm Z9 G;cases h;have J:=tU A (qm G);refine iI q (eD (q.fs _ (qm G)).2.1) A ?_;show some (ae.sc (.int .i64 ((ρ y).l.length:Nat)))=some (.sc (.int .i64 ((ρ n).i+c)));rw[J.1]
  cases h
 .rename_i d k n sz;split at h;.cases h;refine iI q (eD q.z) A ?_;show some (ae.sc (.int .i64 (n:Nat)))=some (.sc (.int .i64 ((ρ 0).i+n)));rw[D,xD]
  cases h
 .cases h
def vP(ρ:bm)(x:Nat)(l:aS):bm:=λ y=>if y=x then⟨0,false,[],l⟩else ρ y
def Ul{x:Nat}:bY x ρ (vP ρ x l):=λ y h=>by show _=if y=x then _ else _;rw[aj (by omega)]
theorem A6{x:Nat}:(vP ρ x l x).l=l:=by show(if x=x then _ else _:SV).l=_;rw[ao rfl]
theorem Sk(h:kI C.tb){y:Nat}{c:Int}{d:vQ}(F:C.tb.td nm=some d)(A:dL C.tb ρ (.sl y n c nm Z9))(q:d.cells.length=sz):fR sz (ρ y).l=true:=by unfold fR;rw[ij];intro e D;obtain⟨i,hi⟩:=VD D;rw[ary h F (A.2 i e hi),q];simp
theorem RR(h:es.all (λ e=>e.length==sz)=true):fR sz (cL ρ es)=true:=by grind[fR,ly,yX]
theorem ayF(ht:kI C.tb)(Y:cB K)(F:bw C.tb ρ K){s0:aq}{s x:XV}(hs:bg K.nx s)(hx:bg K.nx x)(h:Om C K sz s x=some r):
 gu C.tb ρ K bg (λ ρ' v=>iG s0 sz (ev ρ s) (ev ρ x)=some (ev ρ' v)) [r]:=by
 have hz:(ρ 0).i=0:=by rw[F.z];rfl
 unfold Om at h;split at h
 .rename_i es z new o;split at h
  .rename_i hc;cases h;refine iI Y (GL λ e D=>?_) F ?_
   .rcases jA.1 D with q|q
    .exact hs.sx e q
    exact hx.sx e q
   show(if(z=sz\/(z=0/\cL ρ es=[]))/\(cL ρ es).length+(cL ρ new).length<=1073741824/\fR sz (cL ρ new)=true then some (ae.sl (cL ρ es++cL ρ new) (some sz))else none)=some (.sl (cL ρ (es++new)) (some sz));grind[ly,RR]
  cases h
 .rename_i es z y o;split at h
  .rename_i n c nm Z9 ai;split at h
   .rename_i d hd;split at h
    .rename_i hc;cases h;obtain⟨c1,c2,c3,c4⟩:=hc;have hf:=tU F (qm ai);have Z:=dr F c4;rw[hz]at Z;unfold maxLen at Z;have aK:es=[]:=km c1;subst aK;refine iI Y (sP hx.sl) F ?_;show(if(z=sz\/(z=0/\([]:aS)=[]))/\0+(ρ y).l.length<=1073741824/\fR sz (ρ y).l=true then some (ae.sl ([]++(ρ y).l) (some sz))else none)=some (.sl (ρ y).l (some sz));rw[ao];.rfl
     refine⟨?_,?_,Sk ht hd hf c3⟩;.grind
     have:=hf.1;omega
    cases h
   cases h
  cases h
 .rename_i y z new o;split at h
  .rename_i n c nm Z9 ai;split at h
   .rename_i hc;cases h;obtain⟨c1,c2,c3,c4⟩:=hc;subst c1;have hm:=qm ai;have hf:=tU F hm;have N:=Y.fs _ hm;have Z:=dr F c3;rw[hz]at Z;unfold maxLen at Z;have aM:=hf.1;have G:bY K.nx ρ (vP ρ K.nx ((ρ y).l++cL ρ new)):=Ul;refine qH (ρ':=vP ρ K.nx ((ρ y).l++cL ρ new)) (by rw[pM];exact jl _) (wF (oH Y) ⟨iW _,iq N.2.1,λ p hp=>iq (N.2.2 p hp)⟩) (by rw[pM];exact sP (iW _)) G (xk (pa (F.nh Y G)) ⟨?_,λ i e D=>?_⟩) ?_;.rw[A6,<-G n N.2.1,dM,Cy];omega
    .rw[A6]at D;rw[<-uN G N.2.2];rw[List.getElem?_append]at D;split at D;.exact hf.2 i e D
     rename_i aN;rw[ly,bM]at D;cases ab:new[i-(ρ y).l.length]?;.rw[ab]at D;cases D
     rename_i e0;rw[ab]at D;cases D;have ar:(e0,i-(ρ y).l.length)∈new.zipIdx:=Ig.2 ab;have:=ij.1 c4 _ ar;have h5:=(zA ht cF).el Y F N.2.2 (i:=(n,c+(i-(ρ y).l.length:Nat))) N.2.1 (hx.sx e0 (jm ab)) this;grind[b8]
    show(if(z=z\/(z=0/\(ρ y).l=[]))/\(ρ y).l.length+(cL ρ new).length<=1073741824/\fR z (cL ρ new)=true then some (ae.sl ((ρ y).l++cL ρ new) (some z))else none)=some (.sl (vP ρ K.nx ((ρ y).l++cL ρ new) K.nx).l (some z));grind[A6,Cy,RR]
   cases h
  cases h
 .rename_i y z x o;split at h
  .rename_i n c nm Z9 n' c' aE aD aH aG;split at h
   .rename_i d hd;split at h
    .rename_i hc;obtain⟨c1,c2⟩:=hc;subst c1;split at h
     .rename_i cells K' hh aO ay hu aF;split at h
      .rename_i aj;cases h;rw[aR]at aj;have aI:=GY aj.1;unfold maxLen at aI;have av:=qm aH;have au:=qm aG;have aA:=tU F av;have az:=tU F au;have S:=Y.fs _ av;have ac:=Y.fs _ au;have u1:=DC F hu;have u2:=DC F aF;have l1:=aA.1;have l2:=az.1
       have ah:∀(i k:Nat) e,dX C.tb aE (aD.map (b8 ρ)) i e->dX C.tb nm (Z9.map (b8 ρ)) (k:Int) e:=by
        intro i k e hr
        let ρ1:=nV (nV ρ K.nx i) (K.nx+1) k
        have ak:bY K.nx ρ (nV ρ K.nx i):=uF;have aa:bY (K.nx+1) (nV ρ K.nx i) ρ1:=uF;have G:bY K.nx ρ ρ1:=ak.trans aa (jl _);have ei:(ρ1 K.nx).i=i:=by rw[<-aa K.nx (iW _)];exact vo
        have ek:(ρ1 (K.nx+1)).i=k:=vo;have am:(ρ1 0).i=0:=by rw[<-G 0 Y.z];exact hz
        have ax:0<K.new.new.nx:=BH _;have A:K.nx<K.new.new.nx:=iq (iW _);have J:K.nx+1<K.new.new.nx:=iW _;have aC:cB ((K.new.new.add 0 0 K.nx 0).add 0 0 (K.nx+1) 0):=iC (iC (oH (oH Y)) ax A) ax J;have aJ:bw C.tb ρ1 ((K.new.new.add 0 0 K.nx 0).add 0 0 (K.nx+1) 0):=gL (gL (pa (pa (F.nh Y G))) (by rw[ei,am];omega)) (by rw[ek,am];omega);have af:∀p∈aD,p.1<((K.new.new.add 0 0 K.nx 0).add 0 0 (K.nx+1) 0).nx:=λ p hp=>iq (iq (ac.2.2 p hp))
        have aB:∀p∈Z9,p.1<((K.new.new.add 0 0 K.nx 0).add 0 0 (K.nx+1) 0).nx:=λ p hp=>iq (iq (S.2.2 p hp))
        obtain⟨q1,q2,q3,_⟩:=Oz aC af A ay;have aL:b8 ρ1 (K.nx,0)=i:=by show(ρ1 K.nx).i+0=_;rw[ei,iY]
        obtain⟨al,g1,g2,g3⟩:=PS ht aC aJ af A ay (e:=e) (by rw[aL,<-uN G ac.2.2];exact hr);have h5:=(zA ht cF).el q2 g2 (λ p hp=>dF (aB p hp) q1) (i:=(K.nx+1,0)) (dF J q1) q3 aj.2;rw[<-g3]at h5;have e1:Z9.map (b8 al)=Z9.map (b8 ρ):=((uN G S.2.2).trans (uN g1 aB)).symm;have e2:b8 al (K.nx+1,0)=k:=by rw[<-Hw g1 (p:=(K.nx+1,0)) J];show(ρ1 (K.nx+1)).i+0=_;rw[ek,iY]
        rw[e1,e2]at h5;exact h5
       let L:=(ρ y).l++(ρ x).l
       let ρ1:=vP (nV ρ K.nx L.length) (K.nx+1) L
       have ak:bY K.nx ρ (nV ρ K.nx L.length):=uF;have aa:bY (K.nx+1) (nV ρ K.nx L.length) ρ1:=Ul;have G:bY K.nx ρ ρ1:=ak.trans aa (jl _);have en:(ρ1 K.nx).i=L.length:=by rw[<-aa K.nx (iW _)];exact vo
       have el:(ρ1 (K.nx+1)).l=L:=A6;have aP:(L.length:Int)=(ρ n).i+c+((ρ n').i+c'):=by grind
       have ap:ρ1 n=ρ n:=(G n S.2.1).symm;have an:ρ1 n'=ρ n':=(G n' ac.2.1).symm;have A:K.nx<K.new.new.nx:=iq (iW _);have J:K.nx+1<K.new.new.nx:=iW _;have aw:n<K.new.new.nx:=iq (iq S.2.1);have ad:n'<K.new.new.nx:=iq (iq ac.2.1);refine qH (ρ':=ρ1) ?_ (wF (iC (iC (iC (iC (oH (oH Y)) A aw) A ad) aw A) ad A) ⟨J,A,λ p hp=>iq (iq (S.2.2 p hp))⟩) ?_ G (xk (gL (gL (gL (gL (pa (pa (F.nh Y G))) ?_) ?_) ?_) ?_) ⟨?_,λ i e D=>?_⟩) ?_;.rw[pM];exact Nat.le_succ_of_le (jl _)
       .rw[pM];exact sP J
       .rw[en,ap];omega
       .rw[en,an];omega
       .rw[en,ap];omega
       .rw[en,an];omega
       .rw[el,en];omega
       .rw[el]at D;rw[<-uN G S.2.2];have D:((ρ y).l++(ρ x).l)[i]? =some e:=D;rw[List.getElem?_append]at D;split at D;.exact aA.2 i e D
        exact ah _ i e (az.2 _ e D)
       show(if(z=z\/(z=0/\(ρ y).l=[]))/\(ρ y).l.length+(ρ x).l.length<=1073741824/\fR z (ρ x).l=true then some (ae.sl ((ρ y).l++(ρ x).l) (some z))else none)=some (.sl (ρ1 (K.nx+1)).l (some z));grind[Sk]
      cases h
     cases h
    cases h
   cases h
  cases h
 .cases h
theorem aud(ht:kI C.tb)(J:cB K)(q:bw C.tb ρ K){sl:Option Nat}{x:XV}(hx:bg K.nx x)(hh:∀v,hi=some v->bg K.nx v)(h:On C K sl x lo hi=some r):
 gu C.tb ρ K bg (λ ρ' v=>nf sl str (ev ρ x) (lo.map (ev ρ)) (hi.map (ev ρ))=some (ev ρ' v)) [r]:=by
 have Y:(ρ 0).i=0:=by rw[q.z];rfl
 unfold On at h;split at h
 .rename_i sz y o k D c;split at h
  .rename_i n d nm Z9 Z;split at h
   .rename_i t hd;split at h
    .rename_i N;cases h;obtain⟨c1,c2,c3⟩:=N;have h1:=dr q c2;have h2:=dr q c3;rw[Y]at h1;have hm:=qm Z;have hf:=tU q hm;have G:=J.fs _ hm;have F:=(hh _ rfl).int;obtain⟨j,hj⟩:=RD (show 0<=(ρ D).i+c by omega);have S:bY K.nx ρ (vP ρ K.nx ((ρ y).l.take j)):=Ul;have ab:=hf.1;refine qH (ρ':=vP ρ K.nx ((ρ y).l.take j)) (by rw[pM];exact jl _) (wF (oH J) ⟨iW _,iq F,λ p hp=>iq (G.2.2 p hp)⟩) (by rw[pM];exact sP (iW _)) S (xk (pa (q.nh J S)) ⟨?_,λ i e A=>?_⟩) ?_;.rw[A6,<-S D F,n8];omega
     .rw[A6]at A;rw[<-uN S G.2.2];rw[qw]at A;split at A;.exact hf.2 i e A
      cases A
     show(match(some sz:Option Nat),kU none 0,kU (some (.sc (.int k ((ρ D).i+c)))) (ρ y).l.length with|some sz,some l,some h=>if l<=h/\h<=(ρ y).l.length/\fR sz (ρ y).l=true then some (ae.sl (((ρ y).l.drop l).take (h-l)) none)else none|_,_,_=>none)=some (.sl (vP ρ K.nx ((ρ y).l.take j) K.nx).l none);rw[A6];have L:kU (some (.sc (.int k ((ρ D).i+c)))) (ρ y).l.length=some j:=xY hj;rw[L];show(if 0<=j/\j<=(ρ y).l.length/\fR sz (ρ y).l=true then some (ae.sl (((ρ y).l.drop 0).take (j- 0)) none)else none)=_;grind[Sk]
    cases h
   cases h
  cases h
 .rename_i sz es o k D c;split at h
  .rename_i e0;have e0:=cU e0;subst e0;split at h
   .rename_i j;split at h;.rename_i N;cases h;refine iI J (GL λ e A=>hx.sx e (List.mem_of_mem_take A)) q ?_;show(match(some sz:Option Nat),kU none 0,kU (some (.sc (.int k ((ρ 0).i+Int.ofNat j)))) (cL ρ es).length with|some sz,some l,some h=>if l<=h/\h<=(cL ρ es).length/\fR sz (cL ρ es)=true then some (ae.sl (((cL ρ es).drop l).take (h-l)) none)else none|_,_,_=>none)=some (.sl (cL ρ (es.take j)) none);have L:kU (some (.sc (.int k ((ρ 0).i+Int.ofNat j)))) (cL ρ es).length=some j:=xY (by rw[Y];simp);rw[L];show(if 0<=j/\j<=(cL ρ es).length/\fR sz (cL ρ es)=true then some (ae.sl (((cL ρ es).drop 0).take (j- 0)) none)else none)=_;grind[RR,ly,List.map_take]
    cases h
   cases h
  split at h;.rename_i N;cases h;obtain⟨c1,c2,c3⟩:=N;have aa:es=[]:=km c1;subst aa;have h1:=dr q c2;have h2:=dr q c3;rw[Y]at h1 h2;refine iI J (GL λ e A=>by cases A) q ?_;show(match(some sz:Option Nat),kU none 0,kU (some (.sc (.int k ((ρ D).i+c)))) 0 with|some sz,some l,some h=>if l<=h/\h<=0/\fR sz []=true then some (ae.sl ((([]:aS).drop l).take (h-l)) none)else none|_,_,_=>none)=some (.sl [] none);have L:kU (some (.sc (.int k ((ρ D).i+c)))) 0=some 0:=xY (by omega);rw[L];rfl
  cases h
 .cases h
def agT(y:bw C.tb ρ K){d:Nat}{x:Option XV}(h:Ky d x=some j):kU (x.map (ev ρ)) d=some j:=by
 have q:(ρ 0).i=0:=by rw[y.z];rfl
 unfold Ky at h;split at h;.cases h;rfl
 .cases h;exact xY (by rw[q];simp)
 cases h
def ase(G:kI C.tb)(D:cB K)(y:bw C.tb ρ K){sl:Option Nat}{x:XV}(F:bg K.nx x)(J:∀v,hi=some v->bg K.nx v)(h:QZ C K sl str x lo hi=some r):
 gu C.tb ρ K bg (λ ρ' v=>nf sl str (ev ρ x) (lo.map (ev ρ)) (hi.map (ev ρ))=some (ev ρ' v)) [r]:=by
 unfold QZ at h;split at h
 .rename_i s;split at h
  .rename_i v q;cases h;unfold Yz at q;split at q
   .rename_i l A S N;split at q;.rename_i L;cases q;refine iI D vF y ?_;show(match true,kU (lo.map (ev ρ)) 0,kU (hi.map (ev ρ)) s.length with|true,some l,some h=>if l<=h/\h<=s.length then some (ae.sc (.str ((s.drop l).take (h-l))))else none|_,_,_=>none)=_;rw[agT y S,agT y N];show(if l<=A/\A<=s.length then some (ae.sc (.str ((s.drop l).take (A-l))))else none)=_;rw[ao L];rfl
    cases q
   cases q
  cases h
 .exact aud G D y F J h
def ar6(q:∀t,C.st t=true->P.underlying t=some .string)(D:cB K)(A:bw C.tb ρ K){x i:XV}(h:UH C t x i=some v):CU P t (ev ρ x) (ev ρ i)=some (ev ρ v)/\bg K.nx v:=by
 have y:(ρ 0).i=0:=by rw[A.z];rfl
 unfold UH at h;split at h
 .rename_i s k j;split at h;.rename_i b G F;cases h;refine⟨?_,eD D.z⟩;show(match yp P t (.str s) (.int k ((ρ 0).i+Int.ofNat j))with|some r=>kx r|none=>none)=some (ae.sc (.int .u8 ((ρ 0).i+(b.toNat:Nat))));rw[y,xD,xD];unfold yp;rw[q t G];simp only[F];rfl
  cases h
 cases h
end
section
variable{R:bm->XV->Prop}{src:List Tmp}
variable{ρ ρ':bm}{C:eL}{K K':XK}{P:Program}{gl:aM}{Z7:cI}{T:XT}{s:XS}{n:Nat}
def VZ{T:XT}(h:jW n T)(i:Nat):bg n (xS T i):=λ ρ ρ' q=>by rw[<-Ef,<-Ef,h ρ ρ' q]
theorem ahX{T:XT}(h:jW n T)(e:lk T i=some v):bg n v:=λ ρ ρ' q=>by
 have A:lk (bG ρ T) i=some (ev ρ v):=by rw[Ku,e];rfl
 have y:lk (bG ρ' T) i=some (ev ρ' v):=by rw[Ku,e];rfl
 rw[h ρ ρ' q,y]at A;grind
theorem Wa(q:0<n){v:ae}{w:XV}(h:D4 v=some w):bg n w:=by
 unfold D4 at h;split at h<;>cases h;.exact eD q
 .exact vF
 .exact λ _ _ _=>rfl
 exact λ _ _ _=>rfl
theorem AD(y:0<n):∀{v:List ae} {w:List XV},tu v=some w->dk n w
 |[],w,h=>by cases h;exact λ _ _ _=>rfl
 |v::l,w,h=>by
  unfold tu at h;split at h;.rename_i a r D A;cases h;exact λ ρ ρ' q=>by show ev ρ a::aE ρ r=ev ρ' a::aE ρ' r;rw[Wa y D ρ ρ' q,AD y A ρ ρ' q]
  cases h
theorem apd(q:0<n){v:ae}{w:XV}(h:xv v=some w):bg n w:=by unfold xv at h;grind[KN,AD,Wa]
theorem iy(q:0<n)(y:jW n T){x:bu}(h:fC T x=some v):bg n v:=by
 cases x with
 |t i=>cases h;exact VZ y i
 |i m=>cases h;exact eD q
 |b x=>cases h;exact vF
 |v x=>exact apd q h
 |g m=>cases h
 |f f=>cases h;exact λ _ _ _=>rfl
def Pw(y:0<n)(A:jW n T):∀{x:List bu} {v:List XV},Av T x=some v->dk n v
 |[],v,h=>by cases h;exact λ _ _ _=>rfl
 |x::l,v,h=>by
  unfold Av at h;split at h;.rename_i a r F D;cases h;exact λ ρ ρ' q=>by show ev ρ a::aE ρ r=ev ρ' a::aE ρ' r;rw[iy y A F ρ ρ' q,Pw y A D ρ ρ' q]
  cases h
def BdP(n:Nat)(l:List (Nat×XV)):Prop:=∀ρ ρ',bY n ρ ρ'->oJ ρ l=oJ ρ' l
def IY(y:0<n)(A:jW n T):∀{x:List (Nat×bu)} {v:List (Nat×XV)},zi T x=some v->BdP n v
 |[],v,h=>by cases h;exact λ _ _ _=>rfl
 |(i,x)::l,v,h=>by
  unfold zi at h;split at h;.rename_i a r F D;cases h;exact λ ρ ρ' q=>by show(i,ev ρ a)::oJ ρ r=(i,ev ρ' a)::oJ ρ' r;rw[iy y A F ρ ρ' q,IY y A D ρ ρ' q]
  cases h
theorem alY(y:0<n)(A:jW n T){x:Option bu}{v:Option XV}(h:B6 T x=some v):∀w,v=some w->bg n w:=by
 intro w q;cases x;.cases h;cases q
 rename_i x;grind[B6,iy]
def Mf(y:jW n T)(q:bg n v){d:Option Tmp}:jW n (s6 m T d v):=λ ρ ρ' h=>by rw[<-C7,<-C7,y ρ ρ' h,q ρ ρ' h]
def adv(q:jW n T)(l:List Tmp):jW n (yi l T):=λ ρ ρ' h=>by rw[<-CL,<-CL,q ρ ρ' h]
def Fa(A:jW n T)(y:kB n s)(o:Option (List Nat×List Nat)):jW n (dI o T s).1/\kB n (dI o T s).2:=by
 have q:∀ρ ρ',bY n ρ ρ'->(bG ρ (dI o T s).1,aX ρ (dI o T s).2)=(bG ρ' (dI o T s).1,aX ρ' (dI o T s).2):=λ ρ ρ' h=>by rw[<-Ay,<-Ay,A ρ ρ' h,y ρ ρ' h]
 exact⟨λ ρ ρ' h=>(xE (q ρ ρ' h)).1,λ ρ ρ' h=>(xE (q ρ ρ' h)).2⟩
def wG(tb:js)(ρ:bm)(K:XK)(Q:bm->gP->Prop)(l:List gP):Prop:=∃r∈l,∃ρ',bY K.nx ρ ρ'/\bw tb ρ' r.k/\(K.nx<=r.k.nx/\cB r.k/\bg r.k.nx r.v/\kB r.k.nx r.s)/\Q ρ' r
theorem nS{Q:bm->gP->Prop}{r:gP}(q:r.k=K)(F:cB K)(D:bw C.tb ρ K)(y:bg K.nx r.v)(A:kB K.nx r.s)(h:Q ρ r):wG C.tb ρ K Q [r]:=by subst q;exact⟨r,dp.2 rfl,ρ,.rfl,D,⟨be _,F,y,A⟩,h⟩
def HJ{Q:bm->gP->Prop}{l:List (XV×XK)}(D:kB K.nx s)(h:gu C.tb ρ K bg R l)(F:∀ρ' v K',bY K.nx ρ ρ'->R ρ' v->Q ρ' ⟨v,[],s,e,K'⟩):
 wG C.tb ρ K Q (l.map λ p=>⟨p.1,[],s,e,p.2⟩):=by
 obtain⟨y,r,q,ρ',A,h3,G⟩:=h;exact⟨_,eK.2 ⟨r,q,rfl⟩,ρ',A,h3,⟨(y r q).1,(y r q).2.1,(y r q).2.2,D.mono (y r q).1⟩,F ρ' r.1 r.2 A G⟩
def NI{Q:bm->gP->Prop}{p:XV×XK}(A:kB K.nx s)(h:gu C.tb ρ K bg R [p])(D:∀ρ' v K',bY K.nx ρ ρ'->R ρ' v->Q ρ' ⟨v,src,s,e,K'⟩):
 wG C.tb ρ K Q [⟨p.1,src,s,e,p.2⟩]:=by
 obtain⟨G,r,q,ρ',y,h3,F⟩:=h;rw[dp]at q;subst q;have:=G r (dp.2 rfl);exact⟨_,dp.2 rfl,ρ',y,h3,⟨this.1,this.2.1,this.2.2,A.mono this.1⟩,D ρ' r.1 r.2 y F⟩
def E5(Z7:cI)(ρ:bm)(s:XS)(g:Nat)(args:List XV):bm->gP->Prop:=λ ρ' r=>∃d,Z7 g (aE ρ args) ((aX ρ s).cur::(aX ρ s).up)=some (ev ρ' r.v,(aX ρ' r.s).cur::(aX ρ' r.s).up,d)/\r.s.w=(s.w||d)/\r.e=.eP (mZ d)/\r.src=[]
def Hf(P:Program)(C:eL)(Z7:cI)(SI:bm->XK->Prop)(cl:Nat->List XV->XS->XK->Option (List gP)):Prop:=∀{g:Nat} {args:List XV} {s:XS} {K:XK} {l:List gP} {ρ:bm},cl g args s K=some l->cB K->bw C.tb ρ K->SI ρ K->dk K.nx args->kB K.nx s->cy P g=true/\wG C.tb ρ K (E5 Z7 ρ s g args) l
def dv{β:Type}{o:Option α}{f:α->Option β}{b:β}(h:oB o f=some b):∃a,o=some a/\f a=some b:=by
 cases o;.cases h
 rename_i a;exact⟨a,rfl,h⟩
def uP{s:XS}{K:XK}{o:Option XV}(h:tB s K src e o=some l):∃v,o=some v/\l=[⟨v,src,s,e,K⟩]:=by
 cases o;.cases h
 rename_i v;cases h;exact⟨v,rfl,rfl⟩
theorem alD(l:List (Nat×XV)):(oJ ρ l).map (λ p=>(p.1,bD p.2))=oJ ρ (l.map λ p=>(p.1,mA p.2)):=by grind[oJ,List.map_congr_left,qa]
theorem aeZ:∀cs:List XV,mO 1 cs.length ((cs.map mC).map (ev ρ))=(cs.map λ c=>[mC c]).map (aE ρ)
 |[]=>rfl
 |c::cs=>by show[ev ρ (mC c)]::mO 1 cs.length ((cs.map mC).map (ev ρ))=[ev ρ (mC c)]::(cs.map λ c=>[mC c]).map (aE ρ);rw[aeZ cs]
theorem apU(S:List dR)(v:XV):gQ (S.map (aP ρ)) (ev ρ v)=ev ρ (Ac S v):=by
 cases v with
 |ms d k len sz=>
  show(match b7 (S.map (aP ρ)) d k with|some cs=>_|none=>_)=ev ρ (match AM S d k with|some cs=>_|none=>_);rw[RW];cases AM S d k;.rfl
  rename_i cs;simp only[lA];have D:(aE ρ cs).all ae.data=cs.all XV.data:=by grind[dz,all_map,GW]
  have A:(aE ρ cs).length=cs.length:=yX cs;rw[D,A];cases F:cs.all XV.data;.rfl
  cases h:(len*sz==cs.length&&sz==1);.rfl
  simp only;rw[aR]at h;have y:sz=1:=by simpa using h.2
  have q:len*sz=cs.length:=by simpa using h.1
  subst y;rw[xF]at q;subst q;show ae.sl (mO 1 cs.length ((aE ρ cs).map di)) none=.sl (cL ρ (cs.map λ c=>[mC c])) none;grind[dz,KI,ly,aeZ]
 |agg cs=>exact qa (.agg cs)
 |_=>rfl
theorem TI(S:List dR)(l:List XV):(aE ρ l).map (gQ (S.map (aP ρ)))=aE ρ (l.map (Ac S)):=by grind[dz,List.map_congr_left,apU]
theorem avr{S:List dR}(q:kB n s)(e:S=s.cur::s.up){l:List XV}(y:dk n l):dk n (l.map (Ac S)):=λ ρ ρ' h=>by rw[<-TI,<-TI,y ρ ρ' h];have:=q ρ ρ' h;subst e;have D:aP ρ s.cur=aP ρ' s.cur:=dc aq.cur this;have A:s.up.map (aP ρ)=s.up.map (aP ρ'):=dc aq.up this;grind
theorem aal(ht:kI C.tb)(ay:∀t,C.st t=true->P.underlying t=some .string)(aH:Hf P C Z7 SI cl)(hb:cB K)(hk:bw C.tb ρ K)(aD:SI ρ K)(S:jW K.nx T)(Y:kB K.nx s){dst:Option Tmp}{c:CO}(h:UG C cl T s K dst c=some l):
 wG C.tb ρ K (λ ρ' r=>aN P gl Z7 (bG ρ T) (aX ρ s) dst c=some ⟨ev ρ' r.v,r.src,aX ρ' r.s,r.e⟩) l:=by
 have J:=hk.z;have N:=hb.z;cases c with
 |mv x=>
  obtain⟨v,hv,h⟩:=dv h;obtain⟨w,hw,rfl⟩:=uP h;cases hw;refine nS rfl hb hk (Tw (iy N S hv)) Y ?_;simp only[aN,gn J hv,oB,qa]
 |tk sz x=>
  obtain⟨v,hv,h⟩:=dv h;obtain⟨w,hw,rfl⟩:=uP h;have ab:=iy N S hv;refine nS rfl hb hk (λ ρ ρ' F=>by rw[<-R8 hw,<-R8 hw,ab ρ ρ' F]) Y ?_;simp only[aN,gn J hv,oB,R8 hw]
 |pk c a b=>
  obtain⟨vc,av,h⟩:=dv h;obtain⟨va,ax,h⟩:=dv h;obtain⟨vb,aw,h⟩:=dv h;obtain⟨bl,am,h⟩:=dv h;cases h;obtain⟨b0,aK,h1,r,D,ρ',h2,h3,h4⟩:=ack hb hk (iy N S av) am;have ba:=iy N S ax;have bb:=iy N S aw;have bc:∀x:Bool,bg K.nx (mA (cond x va vb)):=λ x=>by grind[Tw]
  refine⟨_,eK.2 ⟨r,D,rfl⟩,ρ',h2,h3,?_,?_⟩
  .exact⟨(h1 r D).1,(h1 r D).2.1,(bc _).mono (h1 r D).1,Y.mono (h1 r D).1⟩
  .have h4:r.1=b0:=h4;simp only[aN,gn J av,gn J ax,gn J aw,oB,aK];rw[<-(bc r.1) ρ ρ' h2,<-Y ρ ρ' h2,h4];cases b0 with
   |true=>show some (VR.mk (bD (ev ρ va)) [] (aX ρ s) .pure)=_;rw[qa];rfl
   |false=>show some (VR.mk (bD (ev ρ vb)) [] (aX ρ s) .pure)=_;rw[qa];rfl
 |bl z pl ps=>
  obtain⟨vz,aa,h⟩:=dv h;obtain⟨vl,ac,h⟩:=dv h;obtain⟨cs,aG,h⟩:=dv h;obtain⟨w,hw,rfl⟩:=uP h;cases hw;have A:∀ρ,kY pl (aE ρ vz) ((oJ ρ vl).map λ p=>(p.1,bD p.2))=some (aE ρ cs):=λ ρ=>by grind[alD,dz,Va]
  refine nS rfl hb hk (KN λ ρ ρ' F=>?_) Y ?_
  .have G:=A ρ;rw[AD N aa ρ ρ' F,IY N S ac ρ ρ' F,A ρ']at G;grind
  .have G:=A ρ;rw[zS J aa]at G;simp only[aN,JW J ac,oB,G];rfl
 |bt z pl ps=>
  obtain⟨vz,aa,h⟩:=dv h;obtain⟨vl,ac,h⟩:=dv h;obtain⟨cs,aG,h⟩:=dv h;obtain⟨w,hw,rfl⟩:=uP h;cases hw;have A:∀ρ,kY pl (aE ρ vz) (oJ ρ vl)=some (aE ρ cs):=λ ρ=>by grind[dz,Va]
  refine nS rfl hb hk (KN λ ρ ρ' F=>?_) Y ?_
  .have G:=A ρ;rw[AD N aa ρ ρ' F,IY N S ac ρ ρ' F,A ρ']at G;grind
  .have G:=A ρ;rw[zS J aa]at G;simp only[aN,JW J ac,oB,G];rfl
 |nl x=>
  obtain⟨v,hv,h⟩:=dv h;obtain⟨w,hw,rfl⟩:=uP h;have ab:=iy N S hv;refine nS rfl hb hk (λ ρ ρ' F=>?_) Y ?_
  .have G:=S9 (ρ:=ρ) hw;rw[ab ρ ρ' F,S9 hw]at G;grind
  .simp only[aN,gn J hv,oB,S9 hw,cP]
 |bn op t x y=>
  obtain⟨a,F,h⟩:=dv h;obtain⟨b,L,h⟩:=dv h;unfold uO at h;split at h
  .rename_i l' hl;cases h;refine HJ Y (ayw (P:=P) (t:=t) ht.2.2 hb hk (iy N S F) (iy N S L) hl) λ ρ' v K' Z D=>?_
   have D:dn P op t (ev ρ a) (ev ρ b)=some (ev ρ' v):=D;simp only[aN,gn J F,gn J L,oB,D,cP,Y ρ ρ' Z]
  .cases h
 |un op x=>
  obtain⟨a,F,h⟩:=dv h;unfold uO at h;split at h
  .rename_i l' hl;cases h;refine HJ Y (awb hb hk (iy N S F) hl) λ ρ' v K' Z D=>?_
   have D:vg op (ev ρ a)=some (ev ρ' v):=D;simp only[aN,gn J F,oB,D,cP,Y ρ ρ' Z]
  .cases h
 |mn x y=>
  obtain⟨a,F,h⟩:=dv h;obtain⟨b,L,h⟩:=dv h;unfold uO at h;split at h
  .rename_i l' hl;cases h;refine HJ Y (auB hb hk (iy N S F) (iy N S L) hl) λ ρ' v K' Z D=>?_
   have D:DM (ev ρ a) (ev ρ b)=some (ev ρ' v):=D;simp only[aN,gn J F,gn J L,oB,D,cP,Y ρ ρ' Z]
  .cases h
 |mx x y=>
  obtain⟨a,F,h⟩:=dv h;obtain⟨b,L,h⟩:=dv h;unfold uO at h;split at h
  .rename_i l' hl;cases h;refine HJ Y (az1 hb hk (iy N S F) (iy N S L) hl) λ ρ' v K' Z D=>?_
   have D:BJ (ev ρ a) (ev ρ b)=some (ev ρ' v):=D;simp only[aN,gn J F,gn J L,oB,D,cP,Y ρ ρ' Z]
  .cases h
 |cv k x=>
  obtain⟨v,hv,h⟩:=dv h;obtain⟨w,hw,rfl⟩:=uP h;obtain⟨e1,e2⟩:=arx hk (iy N S hv) hw;grind[nS,aN,gn,oB]
 |mf f cap=>
  obtain⟨v,hv,h⟩:=dv h;obtain⟨w,hw,rfl⟩:=uP h;cases hw;have ab:=Pw N S hv;refine nS rfl hb hk (ZS λ ρ ρ' F=>?_) Y ?_
  .have:=ab ρ ρ' F;grind[dz,TY]
  .simp only[aN,Ru J hv,oB];show some (VR.mk (.fn f ((aE ρ v).map bD)) _ _ _)=some (VR.mk (.fn f (aE ρ (v.map mA))) _ _ _);rw[dz,dz,TY]
 |fa o x=>
  obtain⟨v,hv,h⟩:=dv h;obtain⟨w,hw,rfl⟩:=uP h;have ab:=iy N S hv;refine nS rfl hb hk (λ ρ ρ' F=>?_) Y ?_
  .have G:=SO (ρ:=ρ) hw;rw[ab ρ ρ' F,SO hw]at G;grind
  .simp only[aN,gn J hv,oB,SO hw,cP]
 |ia sl ar x ix=>
  obtain⟨a,F,h⟩:=dv h;obtain⟨b,L,h⟩:=dv h;unfold uO at h;split at h
  .rename_i l' hl;cases h;refine HJ Y (arh ht hb hk (iy N S F) (iy N S L) hl) λ ρ' v K' Z D=>?_
   have D:mP sl ar (ev ρ a) (ev ρ b)=some (ev ρ' v):=D;simp only[aN,gn J F,gn J L,oB,D,cP,Y ρ ρ' Z]
  .cases h
 |ix t x i=>
  obtain⟨a,F,h⟩:=dv h;obtain⟨b,L,h⟩:=dv h;obtain⟨w,hw,rfl⟩:=uP h;obtain⟨e1,e2⟩:=ar6 ay hb hk hw;grind[nS,aN,gn,oB,cP]
 |ex i x=>
  obtain⟨v,hv,h⟩:=dv h;obtain⟨w,hw,rfl⟩:=uP h;have ab:=iy N S hv;refine nS rfl hb hk (λ ρ ρ' F=>?_) Y ?_
  .have G:=Tn (ρ:=ρ) hw;rw[ab ρ ρ' F,Tn hw]at G;grind
  .simp only[aN,gn J hv,oB,Tn hw,cP]
 |ln sl t x=>
  obtain⟨a,F,h⟩:=dv h;unfold Mr at h;split at h
  .rename_i v K' hl;cases h;refine NI Y (atJ (P:=P) ay hb hk (iy N S F) hl) λ ρ' v K' Z D=>?_
   have D:yc P sl t (ev ρ a)=some (ev ρ' v):=D;simp only[aN,gn J F,oB,D,cP,Y ρ ρ' Z]
  .cases h
 |ld tk agg m x=>
  obtain⟨a,F,h⟩:=dv h;obtain⟨r,D,h⟩:=dv h;cases h;have aJ:=iy N S F;have A:∀ρ ρ',bY K.nx ρ ρ'->(ev ρ r.1,r.2.1,aX ρ r.2.2)=(ev ρ' r.1,r.2.1,aX ρ' r.2.2):=λ ρ ρ' q=>by have G:=IZ (ρ:=ρ) tk agg m s a D;rw[Y ρ ρ' q,aJ ρ ρ' q,IZ tk agg m s a D]at G;grind
  refine nS rfl hb hk (λ ρ ρ' q=>(xE (A ρ ρ' q)).1) (λ ρ ρ' q=>(xE (xE (A ρ ρ' q)).2).2) ?_;simp only[aN,gn J F,oB,IZ tk agg m s a D]
 |sx sl str x lo hi=>
  obtain⟨a,F,h⟩:=dv h;obtain⟨vl,ac,h⟩:=dv h;obtain⟨vh,an,h⟩:=dv h;unfold Mr at h;split at h
  .rename_i v K' hl;cases h;refine NI Y (ase (str:=str) ht hb hk (iy N S F) (alY N S an) hl) λ ρ' v K' Z D=>?_
   have D:nf sl str (ev ρ a) (vl.map (ev ρ)) (vh.map (ev ρ))=some (ev ρ' v):=D;simp only[aN,gn J F,abw J ac,abw J an,oB,D,Y ρ ρ' Z]
  .cases h
 |al z=>
  obtain⟨vz,aa,h⟩:=dv h;cases dst with
  |none=>cases h
  |some k=>
  have h:oB (zM T s k vz) (λ s'=>some [(⟨.ptr s.up.length k 0,[],s',.new true,K⟩:gP)])=some l:=h;obtain⟨s',ad,h⟩:=dv h;cases h;have A:∀ρ,gY (bG ρ T) (aX ρ s) k (aE ρ vz)=some (aX ρ s'):=λ ρ=>by rw[Mt,ad];rfl
  refine nS rfl hb hk (λ _ _ _=>rfl) (λ ρ ρ' q=>?_) ?_
  .have G:=A ρ;rw[S ρ ρ' q,Y ρ ρ' q,AD N aa ρ ρ' q,A ρ']at G;grind
  .have G:=A ρ;rw[zS J aa]at G;simp only[aN,oB,G,yA];rfl
 |bx tk x=>
  obtain⟨k,rfl,h⟩:=dv h;obtain⟨v,hv,h⟩:=dv h;have ab:=iy N S hv;split at h
  .cases h
  .rename_i ah;obtain⟨s',ad,h⟩:=dv h;cases h
   have A:∀ρ,gY (bG ρ T) (aX ρ s) k (cond tk (ev ρ v).cells (bD (ev ρ v)).cells)=some (aX ρ s'):=by
    clear hb hk S Y J N hv ab ah;intro ρ;cases tk with
    |true=>
     simp only[Nx]at ad⊢;rw[Dk,<-dz,Mt,ad];rfl
    |false=>
     simp only[Nt]at ad⊢;rw[qa,Dk,<-dz,Mt,ad];rfl
   refine nS rfl hb hk (λ _ _ _=>rfl) (λ ρ ρ' q=>?_) ?_
   .have G:=A ρ;rw[S ρ ρ' q,Y ρ ρ' q,ab ρ ρ' q,A ρ']at G;grind
   .have G:=A ρ;simp only[aN,oB,gn J hv,Uv,ah,yA];cases tk with
    |true=>simp only[Nx]at G⊢;rw[G];rfl
    |false=>simp only[Nt]at G⊢;rw[G];rfl
 |bs sz z m ps=>
  obtain⟨vz,aa,h⟩:=dv h;obtain⟨vl,ac,h⟩:=dv h;obtain⟨es,aF,h⟩:=dv h;cases h
  have A:∀ρ,mM sz (List.replicate m (aE ρ vz)) (oJ ρ vl)=some (cL ρ es):=λ ρ=>by
   have e:List.replicate m (aE ρ vz)=cL ρ (List.replicate m vz):=by rw[ly,List.map_replicate]
   rw[e,WX,aF];rfl
  refine nS rfl hb hk (λ ρ ρ' q=>?_) Y ?_
  .have G:=A ρ;rw[AD N aa ρ ρ' q,IY N S ac ρ ρ' q,A ρ']at G;show ae.sl _ _=.sl _ _;rw[dU G]
  .have G:=A ρ;rw[zS J aa]at G;simp only[aN,JW J ac,oB,G];rfl
 |mk z lo c=>
  obtain⟨vz,aa,h⟩:=dv h;cases dst with
  |none=>cases h
  |some k=>
  have h:oB (fC T lo) (λ a=>oB (fC T c) λ b=>match a,b with
   |.int .i64 0 (.ofNat n),.int .i64 0 (.ofNat m)=>if n=m/\n<=1000 then oB (zM T s k (List.replicate n vz).flatten) λ s'=>some [(⟨.ms s.up.length k n 1,[],s',.new true,K⟩:gP)]else none
   |_,_=>none)=some l:=h
  obtain⟨a,F,h⟩:=dv h;obtain⟨b,L,h⟩:=dv h;split at h
  .rename_i nn mm xx;split at h
   .rename_i hc;obtain⟨s',ad,h⟩:=dv h;cases h
    have A:∀ρ,gY (bG ρ T) (aX ρ s) k (List.replicate nn (aE ρ vz)).flatten=some (aX ρ s'):=λ ρ=>by
     have e:(List.replicate nn (aE ρ vz)).flatten=aE ρ (List.replicate nn vz).flatten:=by grind[dz,List.map_replicate]
     rw[e,Mt,ad];rfl
    refine nS rfl hb hk (λ _ _ _=>rfl) (λ ρ ρ' q=>?_) ?_
    .have G:=A ρ;rw[S ρ ρ' q,Y ρ ρ' q,AD N aa ρ ρ' q,A ρ']at G;grind
    .have G:=A ρ;rw[zS J aa]at G;have h0:(ρ 0).i=0:=by rw[J];rfl
     have e1:ev ρ (.int .i64 0 (Int.ofNat nn))=.sc (.int .i64 (.ofNat nn)):=by show ae.sc (.int .i64 ((ρ 0).i+Int.ofNat nn))=_;rw[h0,xD]
     have e2:ev ρ (.int .i64 0 (Int.ofNat mm))=.sc (.int .i64 (.ofNat mm)):=by grind
     simp only[aN,oB,gn J F,gn J L,e1,e2,yA];rw[ao ⟨hc.1,by omega⟩,G];rfl
   .cases h
  .cases h
 |st m x v=>
  obtain⟨a,F,h⟩:=dv h;obtain⟨b,L,h⟩:=dv h;obtain⟨r,D,h⟩:=dv h;cases h;have ba:=iy N S F;have bb:=iy N S L;refine nS rfl hb hk (λ _ _ _=>rfl) (λ ρ ρ' q=>?_) ?_
  .have G:=Sw (ρ:=ρ) s m a b D;rw[Y ρ ρ' q,ba ρ ρ' q,bb ρ ρ' q,Sw s m a b D]at G;grind
  .simp only[aN,oB,gn J F,gn J L,Sw s m a b D];rfl
 |cl f args=>
  obtain⟨vf,au,h⟩:=dv h;obtain⟨la,aA,h⟩:=dv h;split at h
  .rename_i g cap xx;have aI:=iy N S au;have am:=Pw N S aA;have aB:dk K.nx cap:=λ ρ ρ' q=>by have:=aI ρ ρ' q;grind[ev]
   have aC:dk K.nx (la++cap):=λ ρ ρ' q=>by have G:=am ρ ρ' q;have k2:=aB ρ ρ' q;grind[dz]
   unfold aih at h;split at h
   .cases h
   .rename_i aj;split at h
    .rename_i aR ak;split at h
     .cases h
     .rename_i ai;cases h;obtain⟨hq,r,D,ρ',h2,h3,h1,d,e1,e2,e3,e4⟩:=aH ak hb hk aD (avr Y rfl aC) Y;refine⟨r,D,ρ',h2,h3,h1,?_⟩;have aQ:(aX ρ s).cur::(aX ρ s).up=(s.cur::s.up).map (aP ρ):=rfl;have af:(aE ρ la++aE ρ cap).map (gQ ((aX ρ s).cur::(aX ρ s).up))=aE ρ ((la++cap).map (Ac (s.cur::s.up))):=by grind[TI,dz]
      have aO:(aE ρ la++aE ρ cap).any ae.fY=(la++cap).any XV.fY:=by rw[dz,dz,<-mT];exact any_map (λ a=>avA a) _
      have aL:(aE ρ ((la++cap).map (Ac (s.cur::s.up)))).any ae.open=((la++cap).map (Ac (s.cur::s.up))).any XV.open:=by rw[dz];exact any_map (λ a=>Q1 a) _
      have ag:((aE ρ la++aE ρ cap).any ae.fY&&(!(wx (ev ρ' r.v))||((aE ρ la++aE ρ cap).map (gQ ((aX ρ s).cur::(aX ρ s).up))).any ae.open))=false:=by
       rw[af,aO,aL];cases hm:(la++cap).any XV.fY with
       |false=>rfl
       |true=>
        rw[hm]at aj ai;simp only[BF,Bool.not_eq_false']at aj ai;have az:=ij.1 ai r D;have:wx (ev ρ' r.v)=true:=by cases hv:r.v<;>rw[hv]at az<;>first|rfl|cases az
        rw[this,aj];rfl
      show Dt P gl Z7 (bG ρ T) (aX ρ s) f args=_;unfold Dt;rw[gn J au,Ru J aA];rw[show ev ρ (.fn g cap)=.fn g (aE ρ cap)from rfl];rw[af]at ag;simp only[hq,af,e1,ag,e3,e4]
      congr 2
      show aq.mk (s.w||d) _ _=aq.mk _ _ _;rw[e2];rfl
    .cases h
  .cases h
 |ap sz x y=>
  obtain⟨a,F,h⟩:=dv h;obtain⟨b,L,h⟩:=dv h;obtain⟨r,D,h⟩:=dv h;cases h;refine NI Y (ayF (s0:=aX ρ s) ht hb hk (iy N S F) (iy N S L) D) λ ρ' v K' Z D=>?_
  have D:iG (aX ρ s) sz (ev ρ a) (ev ρ b)=some (ev ρ' v):=D;simp only[aN,gn J F,gn J L,oB,D];rw[Y ρ ρ' Z]
end
section
variable{bef:List (List Nat)}
variable{ρ ρ':bm}{C:eL}{K K':XK}{P:Program}{gl:aM}{Z7:cI}{T:XT}{s:XS}{n:Nat}
structure lC (tb:js) (ρ:bm) (a:XA):Prop where
 b:cB a.k
 k:bw tb ρ a.k
 T:jW a.k.nx a.T
 s:kB a.k.nx a.s
def Ds{α:Type}(tb:js)(ρ:bm)(K:XK)(Q:bm->α->XA->Prop)(l:List (α×XA)):Prop:=∃r∈l,∃ρ',bY K.nx ρ ρ'/\K.nx<=r.2.k.nx/\lC tb ρ' r.2/\Q ρ' r.1 r.2
def sT{β:Type}{f:α->Option (List β)}:∀{l:List α} {r:List β},nv f l=some r->∀a∈l,∃x,f a=some x/\∀y∈x,y∈r
 |[],r,h,a,q=>by cases q
 |b::l,r,h,a,q=>by
  unfold nv at h;split at h
  .rename_i x y F D;cases h;rcases ck.1 q with rfl|q
   .exact⟨x,F,λ z A=>Ej _ A⟩
   obtain⟨x',J,G⟩:=sT D a q;exact⟨x',J,λ z A=>ND _ (G z A)⟩
  cases h
def YI(D:cB K)(A:bw C.tb ρ K)(G:jW K.nx T){g:Option (Tmp×Bool)}{gs:List (Bool×XK)}(h:Lw K T g=some gs):∃b,oT (bG ρ T) g=some b/\gu C.tb ρ K yU (λ _ x=>x=b) gs:=by
 cases g;.cases h;exact⟨true,rfl,iI D trivial A rfl⟩
 rename_i p;obtain⟨t,want⟩:=p;unfold Lw at h;simp only at h;unfold oT;simp only[Ef];have y:=VZ G t;split at h;.rename_i b q;cases h;rw[q];exact⟨_,rfl,iI D trivial A rfl⟩
 .rename_i q;cases h;rw[q];exact⟨_,rfl,iI D trivial A rfl⟩
 .rename_i x q;cases h;rw[q]at y⊢;exact⟨_,rfl,(JK D A y.bs).map (λ x=>x==want) (λ _ _ _=>trivial) λ ρ' a F=>by subst F;rfl⟩
 cases h
def S7(ht:kI C.tb)(Y:∀t,C.st t=true->P.underlying t=some .string)(ab:Hf P C Z7 SI cl)(F:∀{ρ ρ':bm} {K K':XK},SI ρ K->bY K.nx ρ ρ'->K.nx<=K'.nx->SI ρ' K'):∀{l:List CE} {a:XA} {r:List XA} {ρ:bm},lC C.tb ρ a->SI ρ a.k->EO C cl n l a=some r->
 ∃b∈r,∃ρ',bY a.k.nx ρ ρ'/\a.k.nx<=b.k.nx/\lC C.tb ρ' b/\mJ P gl Z7 n l (bG ρ a.T) (aX ρ a.s)=some (bG ρ' b.T,aX ρ' b.s)
 |[],a,r,ρ,D,G,h=>by cases h;exact⟨a,dp.2 rfl,ρ,.rfl,be _,D,rfl⟩
 |e::l,a,r,ρ,D,G,h=>by
  unfold EO at h;split at h;.cases h
  rename_i gs ah;obtain⟨b0,ad,h1,g,ac,q,h2,h3,h4⟩:=YI D.b D.k D.T ah;obtain⟨x,hx,J⟩:=sT h g ac;have h4:g.1=b0:=h4;obtain⟨A,g2,_⟩:=h1 g ac;have eT:bG ρ a.T=bG q a.T:=D.T ρ q h2;have eS:aX ρ a.s=aX q a.s:=D.s ρ q h2;split at hx
  .rename_i Z;rw[Z]at h4;subst h4;split at hx;.rename_i rs af;obtain⟨r1,ag,N,k1,k2,⟨k3,k4,k5,k6⟩,k7⟩:=aal (gl:=gl) ht Y ab g2 h3 (F G h2 A) (D.T.mono A) (D.s.mono A) af;obtain⟨y,hy,S⟩:=sT hx r1 ag;have aa:lC C.tb N ⟨s6 n (yi r1.src a.T) e.d r1.v,r1.s,r1.k⟩:=⟨k4,k2,Mf (adv (D.T.mono (fX A k3)) _) k5,k6⟩;obtain⟨b,hb,L,m1,m2,m3,m4⟩:=S7 ht Y ab F aa (F (F G h2 A) k1 k3) hy;refine⟨b,J b (S b hb),L,(h2.trans k1 A).trans m1 (fX A k3),fX (fX A k3) m2,m3,?_⟩;have ai:bG q a.T=bG N a.T:=(D.T.mono A) q N k1;unfold mJ;rw[ad,eT,eS];simp only[k7];rw[ai,CL,C7];exact m4
   cases hx
  rename_i Z;rw[Z]at h4;subst h4;have aa:lC C.tb q ⟨s6 n a.T e.d .un,a.s,g.2⟩:=⟨g2,h3,Mf (D.T.mono A) (λ _ _ _=>rfl),D.s.mono A⟩;obtain⟨b,hb,L,m1,m2,m3,m4⟩:=S7 ht Y ab F aa (F G h2 A) hx;refine⟨b,J b hb,L,h2.trans m1 A,fX A m2,m3,?_⟩;unfold mJ;rw[ad,eT,eS];simp only;rw[show ae.un=ev q .un from rfl,C7];exact m4
def U1(ht:kI C.tb)(Y:∀t,C.st t=true->P.underlying t=some .string)(ac:Hf P C Z7 SI cl)(F:∀{ρ ρ':bm} {K K':XK},SI ρ K->bY K.nx ρ ρ'->K.nx<=K'.nx->SI ρ' K'):∀{l:List CE} {i:Nat} {Z:cR} {a:XA} {r:List (cR×XA)} {ρ:bm},lC C.tb ρ a->SI ρ a.k->Hm C cl n bef l i Z a=some r->
 Ds C.tb ρ a.k (λ ρ' Z' b=>jP P gl Z7 n bef l i Z (bG ρ a.T) (aX ρ a.s)=some (Z',bG ρ' b.T,aX ρ' b.s)) r
 |[],i,Z,a,r,ρ,D,G,h=>by cases h;exact⟨(Z,a),dp.2 rfl,ρ,.rfl,be _,D,rfl⟩
 |e::l,i,Z,a,r,ρ,D,G,h=>by
  unfold Hm at h;split at h;.cases h
  rename_i gs ai;obtain⟨b0,af,h1,g,ad,q,h2,h3,h4⟩:=YI D.b D.k D.T ai;obtain⟨x,hx,J⟩:=sT h g ad;have h4:g.1=b0:=h4;obtain⟨A,g2,_⟩:=h1 g ad;have eT:bG ρ a.T=bG q a.T:=D.T ρ q h2;have eS:aX ρ a.s=aX q a.s:=D.s ρ q h2;split at hx
  .rename_i aa;rw[aa]at h4;subst h4;split at hx
   .rename_i rs ag;obtain⟨r1,ah,N,k1,k2,⟨k3,k4,k5,k6⟩,k7⟩:=aal (gl:=gl) ht Y ac g2 h3 (F G h2 A) (D.T.mono A) (D.s.mono A) ag;obtain⟨y,hy,S⟩:=sT hx r1 ah;split at hy;.rename_i Z' hZ;have ab:lC C.tb N ⟨s6 n (yi r1.src a.T) e.d r1.v,r1.s,r1.k⟩:=⟨k4,k2,Mf (adv (D.T.mono (fX A k3)) _) k5,k6⟩;obtain⟨b,hb,L,m1,m2,m3,m4⟩:=U1 ht Y ac F ab (F (F G h2 A) k1 k3) hy;refine⟨b,J b (S b hb),L,(h2.trans k1 A).trans m1 (fX A k3),fX (fX A k3) m2,m3,?_⟩;have aj:bG q a.T=bG N a.T:=(D.T.mono A) q N k1;unfold jP;rw[af,eT,eS];simp only[k7,hZ];rw[aj,CL,C7];exact m4
    cases hy
   cases hx
  rename_i aa;rw[aa]at h4;subst h4;have ab:lC C.tb q ⟨s6 n a.T e.d .un,a.s,g.2⟩:=⟨g2,h3,Mf (D.T.mono A) (λ _ _ _=>rfl),D.s.mono A⟩;obtain⟨b,hb,L,m1,m2,m3,m4⟩:=U1 ht Y ac F ab (F G h2 A) hx;refine⟨b,J b hb,L,h2.trans m1 A,fX A m2,m3,?_⟩;unfold jP;rw[af,eT,eS];simp only;rw[show ae.un=ev q .un from rfl,C7];exact m4
def ajx(L:kI C.tb)(y:∀t,C.st t=true->P.underlying t=some .string)(F:Hf P C Z7 SI cl)(G:∀{ρ ρ':bm} {K K':XK},SI ρ K->bY K.nx ρ ρ'->K.nx<=K'.nx->SI ρ' K'){l:List CE}{r:List XA}{ρ:bm}(S:lC C.tb ρ a)(A:SI ρ a.k)(h:P5 C cl n l bef a=some r):
 ∃b∈r,∃ρ',bY a.k.nx ρ ρ'/\a.k.nx<=b.k.nx/\lC C.tb ρ' b/\uf P gl Z7 n l bef (bG ρ a.T) (aX ρ a.s)=some (bG ρ' b.T,aX ρ' b.s):=by
 unfold P5 at h;split at h
 .rename_i rs D;split at h;.rename_i q;cases h;obtain⟨b,J,ρ',h1,Z,h3,Y⟩:=U1 (gl:=gl) L y F G S A D;refine⟨b.2,eK.2 ⟨b,J,rfl⟩,ρ',h1,Z,h3,?_⟩;unfold uf;rw[Y];have N:=ij.1 q b J;simp only[tQ,N];rfl
  cases h
 .cases h
theorem Nl(h:bg n v)(q:bY n ρ ρ'):jO ρ (some v)=jO ρ' (some v):=by
 cases v with
 |int k y d=>show SV.mk _ _ _ _=SV.mk _ _ _ _;rw[q y h.int]
 |sl y o=>exact q y h.sl
 |bs y=>exact q y h.bs
 |ss y=>exact q y h.ss
 |sx es o=>
  have:=h ρ ρ' q;simp only[ev,ae.sl.injEq,rO]at this;show SV.mk _ _ _ _=SV.mk _ _ _ _;rw[this]
 |sc a=>cases a<;>rfl
 |_=>rfl
def Jf(n:Nat)(o:Option XV):Prop:=∀v,o=some v->bg n v
def eY.mem{E:bk}(h:eY n E):∀o∈E,Jf n o:=λ o y v q=>by obtain⟨i,hi⟩:=VD y;subst q;exact h i v hi
def ag7{o:Option XV}(h:Jf n o)(q:bY n ρ ρ'):jO ρ o=jO ρ' o:=by
 cases o;.rfl
 rename_i v;exact Nl (h v rfl) q
def Mm:∀{E:bk} {nx:Nat} {ρ:bm},0<nx->(∀o∈E,Jf nx o)->∃h,bY nx ρ h/\nx<=(cH E nx).2/\fp (cH E nx).2 (cH E nx).1/\(cH E nx).1.map (dS h)=E.map (jO ρ)
 |[],nx,ρ,hn,Z=>⟨ρ,.rfl,be _,(λ e S=>absurd S lB),rfl⟩
 |o::E,nx,ρ,hn,Z=>by
  have F:∀o∈E,Jf nx o:=λ L D=>Z L (cz _ D)
  have D:=Z o cS
  have q:∀J:SE,(match J with|.i y _=>y<nx|.s y=>y<nx)->(∀ρ,dS ρ J=jO ρ o)->cH (o::E) nx=(J::(cH E nx).1,(cH E nx).2)->
   ∃h,bY nx ρ h/\nx<=(cH (o::E) nx).2/\fp (cH (o::E) nx).2 (cH (o::E) nx).1/\(cH (o::E) nx).1.map (dS h)=(o::E).map (jO ρ):=by
   intro J N hp S;obtain⟨h,Y,G,h3,h4⟩:=Mm (ρ:=ρ) hn F;rw[S];refine⟨h,Y,G,fp.cons ?_ h3,?_⟩
   .cases J with
    |i y d=>exact dF N G
    |s y=>exact dF N G
   .rw[fL,fL,h4,hp,ag7 D Y]
  have fresh:cH (o::E) nx=(.s nx::(cH E (nx+1)).1,(cH E (nx+1)).2)->
   ∃h,bY nx ρ h/\nx<=(cH (o::E) nx).2/\fp (cH (o::E) nx).2 (cH (o::E) nx).1/\(cH (o::E) nx).1.map (dS h)=(o::E).map (jO ρ):=by
   intro S
   let ρ0:bm:=λ y=>if y=nx then jO ρ o else ρ y
   have ag:bY nx ρ ρ0:=λ y hy=>by show _=if y=nx then _ else _;rw[aj (by omega)]
   obtain⟨h,Y,G,h3,h4⟩:=Mm (ρ:=ρ0) (BH nx) λ L A v hv=>(F L A v hv).mono (jl nx)
   rw[S];refine⟨h,ag.trans Y (jl _),Nat.le_of_succ_le G,fp.cons (s:=.s nx) (dF (iW nx) G) h3,?_⟩;rw[fL,fL,h4];have e1:dS h (.s nx)=jO ρ o:=by show h nx=_;rw[<-Y nx (iW nx)];show(if nx=nx then _ else _)=_;rw[ao rfl]
   rw[e1]
   congr 1
   exact kX λ L A=>(ag7 (F L A) ag).symm
  cases o;.exact fresh rfl
  rename_i v;cases v with
  |int k y d=>exact q (.i y d) (D _ rfl).int (λ _=>rfl) rfl
  |sl y oo=>exact q (.s y) (D _ rfl).sl (λ _=>rfl) rfl
  |bs y=>exact q (.s y) (D _ rfl).bs (λ _=>rfl) rfl
  |ss y=>exact q (.s y) (D _ rfl).ss (λ _=>rfl) rfl
  |_=>exact fresh rfl
def XG(σ:Sub):pull ρ σ=aQ (σ.map (dS ρ)):=rfl
mutual
theorem ad0:∀{v w:XV},nP v w=true->ev ρ v=ev ρ w:=by
 intro v w h;cases v<;>cases w<;>first|(simp[nP]at h;done)|skip
 .simp only[nP]at h;rw[ag3 h]
 .simp only[nP,aR]at h;rw[jk h.1.1,cU h.1.2,jk h.2]
 .simp only[nP]at h;rw[cU h]
 .simp only[nP]at h;rw[cU h]
 .simp only[nP,aR]at h;rw[cU h.1,jk h.2]
 .simp only[nP,aR]at h;rw[jk h.2];show ae.sl _ _=.sl _ _;rw[aeO h.1]
 .simp only[nP,aR]at h;rw[cU h.1.1,cU h.1.2,cU h.2]
 .simp only[nP,aR]at h;rw[cU h.2];show ae.rp _ _=.rp _ _;rw[yZ h.1]
 .simp only[nP,aR]at h;rw[cU h.1.1.1,cU h.1.1.2,cU h.1.2,cU h.2]
 .simp only[nP,aR]at h;rw[cU h.1];show ae.fn _ _=.fn _ _;rw[yZ h.2]
 .simp only[nP]at h;show ae.agg _=.agg _;rw[yZ h]
 .simp only[nP]at h;show ae.aL _=.aL _;rw[yZ h]
 rfl
theorem yZ:∀{v w:List XV},rY v w=true->aE ρ v=aE ρ w
 |[],[],_=>rfl
 |v::l,w::r,h=>by simp only[rY,aR]at h;show ev ρ v::aE ρ l=ev ρ w::aE ρ r;rw[ad0 h.1,yZ h.2]
 |[],_::_,h=>by simp[rY]at h
 |_::_,[],h=>by simp[rY]at h
theorem aeO:∀{v w:List (List XV)},CG v w=true->cL ρ v=cL ρ w
 |[],[],_=>rfl
 |v::l,w::r,h=>by simp only[CG,aR]at h;show aE ρ v::cL ρ l=aE ρ w::cL ρ r;rw[yZ h.1,aeO h.2]
 |[],_::_,h=>by simp[CG]at h
 |_::_,[],h=>by simp[CG]at h
end
end
section
variable{ch:List (Nat×XV)}{r:bm}
variable{ρ ρ':bm}{C:eL}{K K':XK}{P:Program}{gl:aM}{Z7:cI}{T:XT}{s:XS}{n:Nat}
def qE(ρ r:bm)(ch:List (Nat×XV))(T:XT):VT:=T.map λ p=>(p.1,match lk ch p.1 with|some q=>ev r q|none=>ev ρ p.2)
def lF(ρ r:bm)(ch:List (Nat×List XV))(F:dR):bI:=F.map λ p=>(p.1,match lk ch p.1 with|some q=>aE r q|none=>aE ρ p.2)
def ny(ρ r:bm)(U:List (Nat×List (Nat×List XV))):List dR->List bI
 |[]=>[]
 |F::S=>lF ρ r (qU U S.length) F::ny ρ r U S
def J0(ρ r:bm)(I:Inv)(w:Bool)(s:XS):aq:=⟨w,lF ρ r I.B s.cur,ny ρ r I.U s.up⟩
def Ze(σ:Sub)(U:List (Nat×List (Nat×List XV))):∀S:List dR,(mj σ U S).length=S.length
 |[]=>rfl
 |F::S=>by show(mj σ U S).length+1=S.length+1;rw[Ze σ U S]
theorem Zf(h0:ρ 0=SV.z)(σ:Sub)(ch:List (Nat×XV)):∀T:XT,bG ρ (tE σ ch T)=qE ρ (pull ρ σ) ch T
 |[]=>rfl
 |(i,v)::T=>by show(i,ev ρ (match lk ch i with|some p=>oD σ p|none=>v))::bG ρ (tE σ ch T)=(i,match lk ch i with|some q=>ev (pull ρ σ) q|none=>ev ρ v)::qE ρ (pull ρ σ) ch T;rw[Zf h0 σ ch T];grind[HT]
theorem O1(h0:ρ 0=SV.z)(σ:Sub)(ch:List (Nat×List XV)):∀T:dR,aP ρ (kZ σ ch T)=lF ρ (pull ρ σ) ch T
 |[]=>rfl
 |(i,v)::T=>by show(i,aE ρ (match lk ch i with|some p=>gp σ p|none=>v))::aP ρ (kZ σ ch T)=(i,match lk ch i with|some q=>aE (pull ρ σ) q|none=>aE ρ v)::lF ρ (pull ρ σ) ch T;rw[O1 h0 σ ch T];grind[wP]
theorem ae2(h0:ρ 0=SV.z)(σ:Sub)(U:List (Nat×List (Nat×List XV))):∀S:List dR,(mj σ U S).map (aP ρ)=ny ρ (pull ρ σ) U S
 |[]=>rfl
 |F::S=>by show aP ρ (kZ σ (qU U S.length) F)::(mj σ U S).map (aP ρ)=lF ρ (pull ρ σ) (qU U S.length) F::ny ρ (pull ρ σ) U S;rw[O1 h0,ae2 h0 σ U S]
theorem PB(J:bw C.tb ρ K):∀{T H:XT} {E G:bk},eY K.nx E->(∀p∈T,bg K.nx p.2)->FG K ch T H E=some G->lV C.tb ρ K.nx E G λ r=>bG ρ T=qE ρ r ch H
 |[],[],E,G,F,L,h=>by cases h;exact⟨.rfl,F,λ _ _=>rfl⟩
 |(i,v)::T,(j,w)::H,E,G,F,L,h=>by
  unfold FG at h;split at h
  .rename_i y;have y:=cU y;subst y;have A:∀p∈T,bg K.nx p.2:=λ p D=>L p (cz _ D)
   split at h
   .rename_i p D;split at h;.rename_i E1 Y;obtain⟨a1,a2,a3⟩:=F9 J F (L _ cS) Y;obtain⟨b1,b2,b3⟩:=PB J a2 A h;refine⟨a1.trans b1,b2,λ S N=>?_⟩;show(i,ev ρ v)::bG ρ T=(i,match lk ch i with|some q=>ev _ q|none=>ev ρ w)::qE ρ _ ch H;rw[D];simp only;rw[a3 S (b1.trans N),b3 S N]
    cases h
   rename_i D;split at h;.rename_i Z;obtain⟨b1,b2,b3⟩:=PB J F A h;grind[bG,qE,ad0]
   cases h
  cases h
 |[],_::_,_,_,_,_,h=>by cases h
 |_::_,[],_,_,_,_,h=>by cases h
theorem Jb(J:bw C.tb ρ K){ch:List (Nat×List XV)}:∀{T H:dR} {E G:bk},eY K.nx E->(∀p∈T,dk K.nx p.2)->CJ K ch T H E=some G->lV C.tb ρ K.nx E G λ r=>aP ρ T=lF ρ r ch H
 |[],[],E,G,F,L,h=>by cases h;exact⟨.rfl,F,λ _ _=>rfl⟩
 |(i,v)::T,(j,w)::H,E,G,F,L,h=>by
  unfold CJ at h;split at h
  .rename_i y;have y:=cU y;subst y;have A:∀p∈T,dk K.nx p.2:=λ p D=>L p (cz _ D)
   split at h
   .rename_i p D;split at h;.rename_i E1 Y;obtain⟨a1,a2,a3⟩:=Bt J F (L _ cS) Y;obtain⟨b1,b2,b3⟩:=Jb J a2 A h;refine⟨a1.trans b1,b2,λ S N=>?_⟩;show(i,aE ρ v)::aP ρ T=(i,match lk ch i with|some q=>aE _ q|none=>aE ρ w)::lF ρ _ ch H;rw[D];simp only;rw[a3 S (b1.trans N),b3 S N]
    cases h
   rename_i D;split at h;.rename_i Z;obtain⟨b1,b2,b3⟩:=Jb J F A h;grind[aP,lF,yZ]
   cases h
  cases h
 |[],_::_,_,_,_,_,h=>by cases h
 |_::_,[],_,_,_,_,h=>by cases h
theorem Zx(J:bw C.tb ρ K):∀{S H:List dR} {E q:bk},eY K.nx E->(∀F∈S,∀p∈F,dk K.nx p.2)->Jc K U S H E=some q->S.length=H.length/\lV C.tb ρ K.nx E q λ r=>S.map (aP ρ)=ny ρ r U H
 |[],[],E,q,D,A,h=>by cases h;exact⟨rfl,.rfl,D,λ _ _=>rfl⟩
 |F::S,G::R,E,q,D,A,h=>by
  unfold Jc at h;split at h
  .rename_i y;have y:=cU y;split at h;.rename_i E1 Z;obtain⟨a1,a2,a3⟩:=Jb J D (A F cS) Z;obtain⟨b0,b1,b2,b3⟩:=Zx J a2 (λ F' Y=>A F' (cz _ Y)) h;refine⟨by grind,a1.trans b1,b2,λ N L=>?_⟩;show aP ρ F::S.map (aP ρ)=lF ρ _ (qU U R.length) G::ny ρ _ U R;rw[a3 N (b1.trans L),b3 N L,y]
   cases h
  cases h
 |[],_::_,_,_,_,_,h=>by cases h
 |_::_,[],_,_,_,_,h=>by cases h
theorem aaT(A:kI C.tb)(F:cB K)(D:bw C.tb ρ K):∀{fs:List (List cq)} {E q:bk},eY K.nx E->Iv C K E fs=some q->kG E q/\eY K.nx q/\∃l∈fs,∀G,kG q G->∀f∈l,dL C.tb (cg ρ G) f
 |[],E,q,y,h=>by cases h
 |l::fs,E,q,y,h=>by
  unfold Iv at h;split at h;.rename_i N J;cases h;obtain⟨a1,a2,a3⟩:=(zA A cF).fs F D y J;grind[List.mem_cons_self]
  obtain⟨a1,a2,l',L,a3⟩:=aaT A F D y h;grind
theorem Mh{T:XT}(h:jW n T):∀p∈T,bg n p.2:=λ p q ρ ρ' y=>by have:=h ρ ρ' y;have:=Er.1 this p q;grind
theorem Hu(h:kB n s):∀p∈s.cur,dk n p.2:=λ p q ρ ρ' y=>by have:=dc aq.cur (h ρ ρ' y);have:=Er.1 (show s.cur.map _=s.cur.map _ from this) p q;grind
theorem auF(q:cB K)(y:∀v∈refs,bg K.nx v):eY K.nx (some (.int .i64 0 0)::List.replicate I.k none++refs.map some):=by
 intro x v h;have:=jm h;rcases jA.1 this with hm|hm
 .rcases ck.1 hm with hm|hm
  .cases hm;exact eD q.z
  grind
 grind
def CM(ρ:bm)(I:Inv)(refs:List XV)(r:bm):Prop:=∃h:List SV,h.length=I.k/\r=aQ (SV.z::h++refs.map λ v=>jO ρ (some v))
theorem aua(D:bw C.tb ρ K){E:bk}(q:kG (some (.int .i64 0 0)::List.replicate I.k none++refs.map some) E):CM ρ I refs (cg ρ E):=by
 have y:E.length=1+I.k+refs.length:=by rw[<-q.1,dM,cD,om,aF];omega
 refine⟨((E.drop 1).take I.k).map (jO ρ),by grind,?_⟩;unfold cg
 congr 1
 have h0:E.take 1=[some (.int .i64 0 0)]:=by
  have:E[0]? =some (some (.int .i64 0 0)):=q.2 0 _ rfl;cases E;.simp at this
  rename_i o E;simp at this;subst this;rfl
 have F:E.drop (1+I.k)=refs.map some:=by
  refine xr λ x=>?_
  rw[zF];by_cases J:x<refs.length
  .have h:(refs.map some)[x]? =some (some refs[x]):=by grind
   rw[h];refine q.2 _ _ ?_;grind
  grind
 have A:jO ρ (some (.int .i64 0 0))=SV.z:=by show SV.mk _ _ _ _=_;rw[D.z];rfl
 have G:E=E.take 1++((E.drop 1).take I.k++E.drop (1+I.k)):=by grind[List.take_append_drop]
 conv=>lhs;rw[G]
 rw[h0,F,mT,mT,fL,A,ko];rfl
theorem aqF(A:∀v∈refs,bg n v)(D:bY n ρ ρ')(h:CM ρ' I refs r):CM ρ I refs r:=by obtain⟨q,y,F⟩:=h;refine⟨q,y,?_⟩;grind[List.map_congr_left,Nl]
theorem ay4(L:jW n T)(J:kB n s)(D:cB K)(S:K.nx=n){r:Cf}(h:uv T s K r=some v):bg n v:=by
 subst S
 have box:∀{k o:Nat} {cs:List XV} {w:XV},lk s.cur k=some cs->cs[o]? =some w->bg K.nx w:=by
  intro k o cs w N Y
  have y:dk K.nx cs:=λ ρ ρ' G=>by
   have e1:lk (aP ρ s.cur) k=some (aE ρ cs):=by rw[DE,N];rfl
   have q:lk (aP ρ' s.cur) k=some (aE ρ' cs):=by rw[DE,N];rfl
   have A:aP ρ s.cur=aP ρ' s.cur:=dc aq.cur (J ρ ρ' G);grind
  exact y.mem (jm Y)
 cases r with
 |t i=>
  simp only[uv]at h;split at h;.rename_i e;cases h;exact eD (ahX L e).int
  cases h
 |l i=>
  simp only[uv]at h;split at h
  .rename_i e;split at h;.rename_i q;cases h;exact eD (D.fs _ (qm q)).2.1
   cases h
  .cases h;exact eD D.z
  cases h
 |b k o=>
  simp only[uv]at h;split at h
  .rename_i cs e;split at h;.rename_i q;cases h;exact eD (box e q).int
   cases h
  cases h
 |bl k o=>
  simp only[uv]at h;split at h
  .rename_i cs e;split at h
   .rename_i q;split at h;.rename_i A;cases h;exact eD (D.fs _ (qm A)).2.1
    cases h
   .cases h;exact eD D.z
   cases h
  cases h
 |s i=>
  simp only[uv]at h;split at h;.rename_i e;cases h;exact sP (ahX L e).sl
  .grind[GL]
  cases h
 |sb k o=>
  simp only[uv]at h;split at h
  .rename_i cs e;split at h;.rename_i q;cases h;exact sP (box e q).sl
   .grind[GL]
   cases h
  cases h
 |ul j k o=>
  simp only[uv]at h;split at h
  .split at h
   .split at h
    .split at h;.rename_i A;cases h;exact eD (D.fs _ (qm A)).2.1
     cases h
    cases h
   cases h
  cases h
 |us j k o=>
  simp only[uv]at h;split at h
  .rename_i F Z;split at h
   .rename_i cs e;split at h
    .rename_i x o' q;cases h
     have y:dk K.nx cs:=λ ρ ρ' G=>by
      have A:s.up.map (aP ρ)=s.up.map (aP ρ'):=dc aq.up (J ρ ρ' G);have e4:aP ρ F=aP ρ' F:=Er.1 A F (jm Z);have e1:lk (aP ρ F) k=some (aE ρ cs):=by rw[DE,e];rfl
      grind[DE]
     exact sP (y.mem (jm q)).sl
    cases h
   cases h
  cases h
def aeF(F:jW n T)(y:kB n s)(D:cB K)(A:K.nx=n):∀{l:List Cf} {v:List XV},MJ T s K l=some v->∀w∈v,bg n w
 |[],v,h,w,hw=>by cases h;cases hw
 |r::l,v,h,w,hw=>by
  unfold MJ at h;split at h
  .rename_i a b G q;cases h;rcases ck.1 hw with rfl|hw
   .exact ay4 F y D A G
   exact aeF F y D A q w hw
  cases h
def au9(h:fp n σ)(G:0<n){T:XT}(A:∀p∈T,bg n p.2):jW n (tE σ ch T):=by
 intro ρ ρ' y;induction T with
 |nil=>rfl
 |cons p T D=>
  obtain⟨i,v⟩:=p;show(i,ev ρ (match lk ch i with|some p=>oD σ p|none=>v))::bG ρ (tE σ ch T)=(i,ev ρ' (match lk ch i with|some p=>oD σ p|none=>v))::bG ρ' (tE σ ch T);rw[D λ q F=>A q (cz _ F)];cases lk ch i;.simp only;rw[A _ cS ρ ρ' y]
  rename_i p;simp only;rw[QU h G p ρ ρ' y]
def aeS(h:fp n σ)(G:0<n){ch:List (Nat×List XV)}{T:dR}(A:∀p∈T,dk n p.2):∀ρ ρ',bY n ρ ρ'->aP ρ (kZ σ ch T)=aP ρ' (kZ σ ch T):=by
 intro ρ ρ' y;induction T with
 |nil=>rfl
 |cons p T D=>
  obtain⟨i,v⟩:=p;show(i,aE ρ (match lk ch i with|some p=>gp σ p|none=>v))::aP ρ (kZ σ ch T)=(i,aE ρ' (match lk ch i with|some p=>gp σ p|none=>v))::aP ρ' (kZ σ ch T);rw[D λ q F=>A q (cz _ F)];cases lk ch i;.simp only;rw[A _ cS ρ ρ' y]
  rename_i p;simp only;rw[vN h G p ρ ρ' y]
theorem Ha(h:kB n s):∀F∈s.up,∀p∈F,dk n p.2:=λ F A p q ρ ρ' y=>by have:=dc aq.up (h ρ ρ' y);have:=Er.1 (show s.up.map _=s.up.map _ from this) F A;have:=Er.1 (show F.map _=F.map _ from this) p q;grind
def abW(h:fp n σ)(q:0<n):∀{S:List dR},(∀F∈S,∀p∈F,dk n p.2)->∀ρ ρ',bY n ρ ρ'->(mj σ U S).map (aP ρ)=(mj σ U S).map (aP ρ')
 |[],_,_,_,_=>rfl
 |F::S,A,ρ,ρ',y=>by show aP ρ (kZ σ (qU U S.length) F)::(mj σ U S).map (aP ρ)=aP ρ' (kZ σ (qU U S.length) F)::(mj σ U S).map (aP ρ');rw[aeS h q (A F cS) ρ ρ' y,abW h q (λ G D=>A G (cz _ D)) ρ ρ' y]
def afF(G:kI C.tb){H:XT}{y:XS}{E:bk}(q:lC C.tb ρ a)(J:∀v∈refs,bg a.k.nx v)(h:fit C I refs a.k a.T H a.s y=some E):
 CM ρ I refs (cg ρ E)/\eY a.k.nx E/\bG ρ a.T=qE ρ (cg ρ E) I.T H/\a.s.up.length=y.up.length/\tq I a.s.w y.w=true/\aX ρ a.s=J0 ρ (cg ρ E) I a.s.w y/\∃l∈I.fs,∀f∈l,dL C.tb (cg ρ E) f:=by
 unfold fit at h;split at h
 .rename_i F;split at h
  .rename_i E1 S;split at h
   .rename_i E2 N;split at h;.rename_i E3 h3;obtain⟨a1,a2,a3⟩:=PB q.k (auF q.b J) (Mh q.T) S;obtain⟨b1,b2,b3⟩:=Jb q.k a2 (Hu q.s) N;obtain⟨d0,D,Z,Y⟩:=Zx q.k b2 (Ha q.s) h3;obtain⟨A,c2,l,L,c3⟩:=aaT G q.b q.k Z h;refine⟨aua q.k (((a1.trans b1).trans D).trans A),c2,a3 E ((b1.trans D).trans A),d0,F,?_,l,L,c3 E .rfl⟩;show aq.mk _ _ _=aq.mk _ _ _;rw[b3 E (D.trans A),Y E A]
    cases h
   cases h
  cases h
 .cases h
theorem ads(ρ r ρ0:bm)(ch:List (Nat×XV))(σ:Sub):∀{T:XT},(∀p∈T,ev ρ p.2=ev ρ0 p.2)->qE ρ r ch (tE σ ch T)=qE ρ0 r ch T
 |[],_=>rfl
 |(i,v)::T,h=>by show(i,match lk ch i with|some q=>ev r q|none=>ev ρ (match lk ch i with|some p=>oD σ p|none=>v))::qE ρ r ch (tE σ ch T)=(i,match lk ch i with|some q=>ev r q|none=>ev ρ0 v)::qE ρ0 r ch T;rw[ads ρ r ρ0 ch σ λ q y=>h q (cz _ y)];grind[List.mem_cons_self]
theorem TS(ρ r ρ0:bm)(ch:List (Nat×List XV))(σ:Sub):∀{T:dR},(∀p∈T,aE ρ p.2=aE ρ0 p.2)->lF ρ r ch (kZ σ ch T)=lF ρ0 r ch T
 |[],_=>rfl
 |(i,v)::T,h=>by show(i,match lk ch i with|some q=>aE r q|none=>aE ρ (match lk ch i with|some p=>gp σ p|none=>v))::lF ρ r ch (kZ σ ch T)=(i,match lk ch i with|some q=>aE r q|none=>aE ρ0 v)::lF ρ0 r ch T;rw[TS ρ r ρ0 ch σ λ q y=>h q (cz _ y)];grind[List.mem_cons_self]
def VQ(ρ r ρ0:bm)(U:List (Nat×List (Nat×List XV)))(σ:Sub):∀{S:List dR},(∀F∈S,∀p∈F,aE ρ p.2=aE ρ0 p.2)->ny ρ r U (mj σ U S)=ny ρ0 r U S
 |[],_=>rfl
 |F::S,h=>by show lF ρ r (qU U (mj σ U S).length) (kZ σ (qU U S.length) F)::ny ρ r U (mj σ U S)=lF ρ0 r (qU U S.length) F::ny ρ0 r U S;rw[Ze,TS ρ r ρ0 _ σ (h F cS),VQ ρ r ρ0 U σ λ y q=>h y (cz _ q)]
def X7{ρ ρ0:bm}:∀{S:List dR},(∀F∈S,∀p∈F,aE ρ p.2=aE ρ0 p.2)->ny ρ r U S=ny ρ0 r U S
 |[],_=>rfl
 |F::S,h=>by
  show lF ρ r (qU U S.length) F::ny ρ r U S=lF ρ0 r (qU U S.length) F::ny ρ0 r U S;rw[X7 λ A y=>h A (cz _ y)]
  congr 1
  exact kX λ p q=>by rw[h F cS p q]
theorem amT{w w0:Bool}(h:tq I w w0=true):w∈Uj I w0:=by grind[tq,Uj]
theorem ax2{a b c:Bool}(h:tq I a b=true)(q:tq I b c=true):tq I a c=true:=by grind[tq]
theorem aAf{a:Bool}:tq I a a=true:=by grind[tq]
abbrev Hs(P:Program)(gl:aM)(Z7:cI)(n:Nat)(c:CC)(T:VT)(st:aq):bm->eE->XA->Prop:=λ ρ' e b=>aJ P gl Z7 n c T st=some (e,bG ρ' b.T,aX ρ' b.s)
theorem awn(ht:kI C.tb){h:Option (List Nat×List Nat)}{x:CC}{ae:XA->Option (List (eE×XA))}{A:XA}{r:List (eE×XA)}{ρ0:bm}{Inva:bm->Prop}(av:∀ρ ρ',bY A.k.nx ρ ρ'->Inva ρ->Inva ρ')
 (an:∀{a:XA} {r:List (eE×XA)} {ρ:bm},ae a=some r->lC C.tb ρ a->Inva ρ->A.k.nx<=a.k.nx->Ds C.tb ρ a.k (Hs P gl Z7 n x (bG ρ a.T) (aX ρ a.s)) r)
 (hg:lC C.tb ρ0 A) (hI:Inva ρ0) (hx:O0 C I h ae A=some r):Ds C.tb ρ0 A.k (Hs P gl Z7 n (.loop h x) (bG ρ0 A.T) (aX ρ0 A.s)) r:=by
 obtain⟨bT,bS⟩:=Fa hg.T hg.s h;unfold O0 at hx;simp only at hx;split at hx;.cases hx
 .rename_i refs ai;split at hx;.cases hx
  rename_i E0 ax;have ab:=aeF bT bS hg.b rfl ai;have aH:lC C.tb ρ0 ⟨(dI h A.T A.s).1,(dI h A.T A.s).2,A.k⟩:=⟨hg.b,hg.k,bT,bS⟩;obtain⟨f1,f2,f3,aV,aU,f4,l0,aF,f5⟩:=afF ht (a:=⟨(dI h A.T A.s).1,(dI h A.T A.s).2,A.k⟩) aH ab ax
  have ap:∀(m:Nat) (q:bm) (l:List cq) (T:VT) (st:aq) (w:Bool),tq I w (dI h A.T A.s).2.w=true->l∈I.fs->(b8 q I.m.1-b8 q I.m.2+1).toNat<m->CM ρ0 I refs q->(∀f∈l,dL C.tb q f)->
   me h T st=(qE ρ0 q I.T (dI h A.T A.s).1,J0 ρ0 q I w (dI h A.T A.s).2)->Ds C.tb ρ0 A.k (Hs P gl Z7 n (.loop h x) T st) r:=by
   intro m;induction m with
   |zero=>intro q l T st w _ _ hm;omega
   |succ m ih=>
    intro q l T st w hw hl hm hq hf aS;obtain⟨y0,aA,ah⟩:=sT hx w (amT hw);obtain⟨y,hy,af⟩:=sT aA l hl;have ar:∀z∈y,z∈r:=λ z hz=>ah z (af z hz)
    unfold aa4 at hy;simp only at hy;split at hy
    .rename_i am;split at hy;.cases hy
     rename_i outs aj;split at hy
     .rename_i ay;cases hy;obtain⟨mid,aO,aC⟩:=hq;have hn:=hg.b.z;obtain⟨ρ1,s1,s2,s3,s4⟩:=Mm (E:=refs.map some) (nx:=A.k.nx+I.k) (ρ:=more ρ0 A.k.nx mid) (by omega) (λ o ho v hv=>by subst hv;obtain⟨w,hw,he⟩:=eK.1 ho;cases he;exact(ab _ hw).mono (VC _ _))
      have aN:bY A.k.nx ρ0 (more ρ0 A.k.nx mid):=Vc;have ag:bY A.k.nx ρ0 ρ1:=aN.trans s1 (by omega);have N:ρ1 0=SV.z:=MU hn ag hg.k.z;have Y:fp (cH (refs.map some) (A.k.nx+I.k)).2 (.i 0 0::cN I.k A.k.nx++(cH (refs.map some) (A.k.nx+I.k)).1):=fp.append (fp.cons (s:=.i 0 0) (show 0<_ by omega) ((Mi _ _).mono s2)) s3
      have G:pull ρ1 (.i 0 0::cN I.k A.k.nx++(cH (refs.map some) (A.k.nx+I.k)).1)=q:=by
       rw[XG,aC,mT,fL,s4,ko];have e1:dS ρ1 (.i 0 0)=SV.z:=by show SV.mk _ _ _ _=_;rw[N];rfl
       have e2:(cN I.k A.k.nx).map (dS ρ1)=mid:=by
        refine xr λ j=>?_
        rw[bM,Jp];by_cases hj:j<I.k;.rw[ao hj];show some (ρ1 (A.k.nx+j))=_;rw[<-s1 (A.k.nx+j) (by omega)];show some (if A.k.nx+j<A.k.nx then _ else mid.getD (A.k.nx+j-A.k.nx) SV.z)=_;grind
        grind
       grind[List.map_congr_left,Nl]
      have aw:lC C.tb ρ1 ⟨tE (.i 0 0::cN I.k A.k.nx++(cH (refs.map some) (A.k.nx+I.k)).1) I.T (dI h A.T A.s).1,{w:=w,cur:=kZ (.i 0 0::cN I.k A.k.nx++(cH (refs.map some) (A.k.nx+I.k)).1) I.B (dI h A.T A.s).2.cur,up:=mj (.i 0 0::cN I.k A.k.nx++(cH (refs.map some) (A.k.nx+I.k)).1) I.U (dI h A.T A.s).2.up},
       ({A.k with nx:=(cH (refs.map some) (A.k.nx+I.k)).2}:XK).facts (l.map (Eb (.i 0 0::cN I.k A.k.nx++(cH (refs.map some) (A.k.nx+I.k)).1)))⟩:=by
       have ac:A.k.nx<=(cH (refs.map some) (A.k.nx+I.k)).2:=by omega
       have ak:0<(cH (refs.map some) (A.k.nx+I.k)).2:=by omega
       refine⟨E6 (Mb hg.b ac) λ f hf=>?_,Dq (KL (hg.k.nh hg.b ag) _) λ f aT=>?_,?_,?_⟩;.grind[Sx]
       .grind[RY]
       .rw[rX];exact au9 Y ak λ p J=>(Mh bT p J).mono ac
       .rw[rX];intro ρ ρ' ha;show aq.mk _ _ _=aq.mk _ _ _;have e1:=aeS Y ak (ch:=I.B) (T:=(dI h A.T A.s).2.cur) (λ p J=>(Hu bS p J).mono ac) ρ ρ' ha;have e2:=abW Y ak (U:=I.U) (S:=(dI h A.T A.s).2.up) (λ F hF p J=>(Ha bS F hF p J).mono ac) ρ ρ' ha;grind
      obtain⟨o,ho,ρ2,g1,g2,g3,g4⟩:=an aj aw (av _ _ ag hI) (by grind[rX]);rw[rX]at g1 g2;have aa:bY A.k.nx ρ0 ρ2:=ag.trans g1 (by grind);have aI:bG ρ1 (tE (.i 0 0::cN I.k A.k.nx++(cH (refs.map some) (A.k.nx+I.k)).1) I.T (dI h A.T A.s).1)=qE ρ0 q I.T (dI h A.T A.s).1:=by rw[Zf N,G];exact kX λ p J=>by rw[<-(Mh bT p J) ρ0 ρ1 ag]
      have aK:aX ρ1 {w:=w,cur:=kZ (.i 0 0::cN I.k A.k.nx++(cH (refs.map some) (A.k.nx+I.k)).1) I.B (dI h A.T A.s).2.cur,up:=mj (.i 0 0::cN I.k A.k.nx++(cH (refs.map some) (A.k.nx+I.k)).1) I.U (dI h A.T A.s).2.up}=J0 ρ0 q I w (dI h A.T A.s).2:=by
       show aq.mk _ (aP ρ1 (kZ _ _ _)) _=aq.mk _ _ _;rw[O1 N,G];have e1:lF ρ1 q I.B (dI h A.T A.s).2.cur=lF ρ0 q I.B (dI h A.T A.s).2.cur:=kX λ p J=>by rw[<-(Hu bS p J) ρ0 ρ1 ag]
       have e2:ny ρ1 q I.U (dI h A.T A.s).2.up=ny ρ0 q I.U (dI h A.T A.s).2.up:=X7 λ F hF p J=>(Ha bS F hF p J) ρ1 ρ0 ag.symm
       grind[ae2]
      have g4:aJ P gl Z7 n x (bG ρ1 _) (aX ρ1 _)=some (o.1,bG ρ2 o.2.T,aX ρ2 o.2.s):=g4;rw[aI,aK]at g4;have Z:aJ P gl Z7 n (.loop h x) T st=mY (aJ P gl Z7 n (.loop h x)) (some (o.1,bG ρ2 o.2.T,aX ρ2 o.2.s)):=by grind[iw]
      have ad:A.k.nx<=o.2.k.nx:=fX (show A.k.nx<=(cH (refs.map some) (A.k.nx+I.k)).2 by omega) g2;cases L:OO o.1
      .refine⟨o,ar o (Vq.2 ⟨ho,by rw[L];rfl⟩),ρ2,aa,ad,g3,?_⟩;show aJ P gl Z7 n (.loop h x) T st=_;rw[Z];obtain⟨oe,oa⟩:=o;cases oe with
       |normal=>cases L
       |exit j=>rfl
       |ret=>rfl
      have D:=ij.1 ay o ho;rw[L]at D;simp only[Vx,Bool.false_or]at D;split at D
      .rename_i E hE;split at D
       .rename_i A' B' hA hB;obtain⟨tT,tS⟩:=Fa g3.T g3.s h;have aG:lC C.tb ρ2 ⟨(dI h o.2.T o.2.s).1,(dI h o.2.T o.2.s).2,o.2.k⟩:=⟨g3.b,g3.k,tT,tS⟩;have au:∀v∈refs,bg o.2.k.nx v:=λ v hv=>(ab v hv).mono ad
        obtain⟨e1,e2,e3,aW,aL,e4,l2,aE,e5⟩:=afF ht (a:=⟨(dI h o.2.T o.2.s).1,(dI h o.2.T o.2.s).2,o.2.k⟩) aG au hE;have aB:CM ρ0 I refs (cg ρ2 E):=aqF ab aa e1
        have aD:Ds C.tb ρ0 A.k (Hs P gl Z7 n (.loop h x) (bG ρ2 o.2.T) (aX ρ2 o.2.s)) r:=by
         refine ih (cg ρ2 E) l2 _ _ _ (ax2 aL hw) aE ?_ aB e5 ?_
         .have m1:=tI (ρ:=ρ2) hA kG.rfl;have m2:=tI (ρ:=ρ2) hB kG.rfl;have k1:b8 ρ2 (nR (.i 0 0::cN I.k A.k.nx++(cH (refs.map some) (A.k.nx+I.k)).1) I.m.1)=b8 q I.m.1:=by rw[<-Hw g1 (p:=nR _ _) (Y.num (by omega) _),Gb N,G]
          have k2:b8 ρ2 (nR (.i 0 0::cN I.k A.k.nx++(cH (refs.map some) (A.k.nx+I.k)).1) I.m.2)=b8 q I.m.2:=by rw[<-Hw g1 (p:=nR _ _) (Y.num (by omega) _),Gb N,G]
          have al:=dr aw.k am;have al:b8 ρ1 (nR (.i 0 0::cN I.k A.k.nx++(cH (refs.map some) (A.k.nx+I.k)).1) I.m.2)<=b8 ρ1 (nR (.i 0 0::cN I.k A.k.nx++(cH (refs.map some) (A.k.nx+I.k)).1) I.m.1):=al;rw[Gb N,Gb N,G]at al;unfold Yt at D;rw[nZ,aR,aR]at D
          have aQ:b8 ρ2 A'-b8 ρ2 B'+1<=b8 q I.m.1-b8 q I.m.2:=by
           rcases D with⟨h1,h2⟩|⟨h1,h2⟩
           .have q1:=dr g3.k h1;have q2:=dr g3.k h2;grind[b8]
           have q1:=dr g3.k h1;have q2:=dr g3.k h2;grind[b8]
          grind[b8]
         rw[Ay];have e3:bG ρ2 (dI h o.2.T o.2.s).1=_:=e3;have e4:aX ρ2 (dI h o.2.T o.2.s).2=_:=e4;rw[e3,e4];rw[ads ρ2 (cg ρ2 E) ρ0 I.T _ λ p J=>(Mh bT p J) ρ2 ρ0 aa.symm]
         congr 1
         show aq.mk _ (lF ρ2 _ I.B (kZ _ _ _)) (ny ρ2 _ I.U (mj _ _ _))=aq.mk _ _ _;rw[TS ρ2 (cg ρ2 E) ρ0 I.B _ λ p J=>(Hu bS p J) ρ2 ρ0 aa.symm,VQ ρ2 (cg ρ2 E) ρ0 I.U _ λ F hF p J=>(Ha bS F hF p J) ρ2 ρ0 aa.symm]
        obtain⟨z,hz,az,z1,z2,z3,z4⟩:=aD;refine⟨z,hz,az,z1,z2,z3,?_⟩;show aJ P gl Z7 n (.loop h x) T st=_;rw[Z];obtain⟨oe,oa⟩:=o;cases oe with
        |normal=>exact z4
        |exit j=>cases L
        |ret=>cases L
       cases D
      cases D
     cases hy
    cases hy
  have f3:bG ρ0 (dI h A.T A.s).1=_:=f3;have f4:aX ρ0 (dI h A.T A.s).2=_:=f4;exact ap _ (cg ρ0 E0) l0 _ _ _ aAf aF (iW _) f1 f5 (by rw[Ay,f3,f4])
end
section
variable{args:List XV}
variable{ρ ρ':bm}{C:eL}{K K':XK}{P:Program}{gl:aM}{T:XT}{s:XS}{n:Nat}{pol:FuncId->eV}{bset:FuncId->Bool}{base:eH}
def OG(ks:List Nat)(ρ:bm):Prop:=∀i:Nat,ks[i]? =some 0->ρ (i+1)=⟨(ρ (i+1)).i,false,[],[]⟩
def iZ(Z7:cI)(tb:js)(g:Nat)(c:Ct)(h:Option (Int×Int)):Prop:=∀ρ:bm,ρ 0=SV.z->OG c.ks ρ->(∀f∈c.pre,dL tb ρ f)->(∀m lo,h=some (m,lo)->∃x l,c.dec=some (x,l)/\(ρ x).i<m/\lo<=(ρ x).i)->∃o∈c.outs,∃ρ',bY (c.ks.length+1) ρ ρ'/\(∀x,c.ks.length+1+o.k<=x->ρ' x=SV.z)/\(∀S,Z7 g (aE ρ c.args) S=some (ev ρ' o.res,S,false))/\∀f∈o.post,dL tb ρ' f
structure XH (P:Program) (gl:aM) (pol:FuncId->eV) (bset:FuncId->Bool) (base:eH) (C:eL) (M:Int):Prop where
 tb:kI C.tb
 st:∀t,C.st t=true->P.underlying t=some .string
 fn:∀g F,C.fn g=some F->db P (pol g) g=some F/\bset g=false
 ok:∀g,C.ok g=true->cy P g=true
 ct:∀f g c,C.ct f g=some c->iZ (vω P pol gl bset base) C.tb g c (match C.self with|some (f0,_,lo)=>(match Nat.beq f0 g with|true=>some (M,lo)|false=>none)|none=>none)
def yH(C:eL)(M:Int)(ρ:bm)(K:XK):Prop:=∀h a c,C.self=some (h,a,c)->a<K.nx/\(ρ a).i=M
def B5{ρ ρ':bm}{K K':XK}(h:yH C M ρ K)(A:bY K.nx ρ ρ')(y:K.nx<=K'.nx):yH C M ρ' K':=λ F a c e=>by obtain⟨q,D⟩:=h F a c e;exact⟨dF q y,by rw[<-A a q];exact D⟩
theorem V5:∀{ks:List Nat} {E:bk},vm ks E=true->∀(i:Nat) (o:Option XV),ks[i]? =some 0->E[i]? =some o->o=none\/∃k y d,o=some (.int k y d)
 |[],E,h,i,o,A,_=>by simp at A
 |k::ks,[],h,i,o,_,q=>by simp at q
 |k::ks,e::E,h,i,o,A,q=>by
  have rest:vm ks E=true/\(k=0->e=none\/∃k y d,e=some (.int k y d)):=by
   cases k
   .cases e;.grind[vm]
    rename_i v;cases v<;>first|(simp[vm]at h;done)|grind[vm]
   rename_i k;exact⟨by simpa[vm]using h,λ h=>by cases h⟩
  cases i;.grind
  rename_i i;simp at A q;exact V5 rest.1 i o A q
theorem Ys(G:cB K)(hk:bw C.tb ρ K){E:bk}(hE:eY K.nx E){o:Cl}{ρ':bm}(c1:∀x,x<E.length->cg ρ E x=ρ' x)(c2:∀x,E.length+o.k<=x->ρ' x=SV.z)(c4:∀f∈o.post,dL C.tb ρ' f)(hs:kB K.nx s):
 ∃ρ2,bY K.nx ρ ρ2/\bw C.tb ρ2 (vy s K (cH E K.nx).1 (cH E K.nx).2 o).k/\
  (K.nx<=(vy s K (cH E K.nx).1 (cH E K.nx).2 o).k.nx/\cB (vy s K (cH E K.nx).1 (cH E K.nx).2 o).k/\bg (vy s K (cH E K.nx).1 (cH E K.nx).2 o).k.nx (vy s K (cH E K.nx).1 (cH E K.nx).2 o).v/\kB (vy s K (cH E K.nx).1 (cH E K.nx).2 o).k.nx (vy s K (cH E K.nx).1 (cH E K.nx).2 o).s)/\
  ev ρ2 (vy s K (cH E K.nx).1 (cH E K.nx).2 o).v=ev ρ' o.res:=by
 obtain⟨J,s1,Z,Y,s4⟩:=Mm (E:=E) (nx:=K.nx) (ρ:=ρ) G.z (eY.mem hE)
 let h:=(cH E K.nx).2
 let mid:=(List.range o.k).map λ j=>ρ' (E.length+j)
 have aa:mid.length=o.k:=by rw[aF,aD2]
 let ρ2:=more J h mid
 have D:bY h J ρ2:=Vc;have S:bY K.nx ρ ρ2:=s1.trans D Z;have N:ρ2 0=SV.z:=MU G.z S hk.z;have L:fp (h+o.k) ((cH E K.nx).1++cN o.k h):=fp.append (Y.mono (VC _ _)) (Mi _ _)
 have F:pull ρ2 ((cH E K.nx).1++cN o.k h)=ρ':=by
  rw[XG,mT]
  have e1:(cH E K.nx).1.map (dS ρ2)=E.map (jO ρ):=by
   rw[<-s4];refine kX λ e he=>?_
   have:=Y e he;cases e with
   |i y d=>show SV.mk _ _ _ _=SV.mk _ _ _ _;rw[D y this]
   |s y=>exact(D y this).symm
  have e2:(cN o.k h).map (dS ρ2)=mid:=by
   refine xr λ j=>?_
   rw[bM,Jp];by_cases hj:j<o.k;.rw[ao hj];show some (ρ2 (h+j))=_;show some (if h+j<h then _ else mid.getD (h+j-h) SV.z)=_;grind
   grind
  rw[e1,e2];funext x;rw[RN,aF];by_cases hx:x<E.length;.rw[ao hx];exact c1 x hx
  grind[aQ]
 have A:K.nx<=h+o.k:=fX Z (VC _ _);refine⟨ρ2,S,?_,⟨by show _<=(XK.facts _ _).nx;rw[rX];exact A,E6 (Mb G A) λ f hf=>?_,?_,?_⟩,?_⟩
 .refine Dq (KL (hk.nh G S) _) λ f hf=>?_
  grind[RY]
 .obtain⟨q,_,rfl⟩:=eK.1 hf;exact Sx L (dF G.z A) q
 .show bg (XK.facts _ _).nx _;rw[rX];exact QU L (dF G.z A) _
 .show kB (XK.facts _ _).nx _;rw[rX];exact hs.mono A
 .show ev ρ2 (oD _ o.res)=_;rw[HT N,F]
def Py(F:bw C.tb ρ K):∀{p:List (Option XV)} {v:List XV} {E q:bk},eY K.nx E->dk K.nx v->HN K p v E=some q->kG E q/\eY K.nx q
 |[],v,E,q,A,y,h=>by cases h;exact⟨.rfl,A⟩
 |none::ps,v::vs,E,q,A,y,h=>Py F A (dk.of λ w D=>y.mem (cz _ D)) h
 |some p::ps,v::vs,E,q,A,y,h=>by
  unfold HN at h;split at h;.rename_i J G;obtain⟨a1,a2,_⟩:=F9 F A (y.mem cS) G;obtain⟨b1,b2⟩:=Py F a2 (dk.of λ w D=>y.mem (cz _ D)) h;exact⟨a1.trans b1,b2⟩
  cases h
 |none::_,[],_,_,_,_,h=>by cases h
 |some _::_,[],_,_,_,_,h=>by cases h
theorem abQ(N:bw C.tb ρ K){S:List dR}(Y:∀F∈S,∀p∈F,dk K.nx p.2):∀{l:List (Nat×Nat×List XV)} {E A:bk},eY K.nx E->Ja K S l E=some A->kG E A/\eY K.nx A
 |[],E,A,G,h=>by cases h;exact⟨.rfl,G⟩
 |(d,k,p)::l,E,A,G,h=>by
  unfold Ja at h;split at h
  .rename_i F Z;split at h
   .rename_i cs D;split at h
    .rename_i E1 h1
     have y:∃i,(i,cs)∈F:=by
      have J:∀{L:dR},lk L k=some cs->∃i,(i,cs)∈L:=by
       intro L;induction L with
       |nil=>intro h;cases h
       |cons q L ih=>grind[lk]
      exact J D
     obtain⟨i,hi⟩:=y;obtain⟨a1,a2,_⟩:=Bt N G (Y F (jm Z) _ hi) h1;obtain⟨b1,b2⟩:=abQ N Y a2 h;exact⟨a1.trans b1,b2⟩
    cases h
   cases h
  cases h
def Un:∀{F G:dR},zJ F G=true->aP ρ F=aP ρ G
 |[],[],_=>rfl
 |(i,v)::F,(j,w)::G,h=>by simp only[zJ,aR]at h;show(i,aE ρ v)::aP ρ F=(j,aE ρ w)::aP ρ G;rw[cU h.1.1,yZ h.1.2,Un h.2]
 |[],_::_,h=>by simp[zJ]at h
 |_::_,[],h=>by simp[zJ]at h
def afC:∀{l r:List dR},Dg l r=true->l.map (aP ρ)=r.map (aP ρ)
 |[],[],_=>rfl
 |F::l,G::r,h=>by simp only[Dg,aR]at h;show aP ρ F::l.map (aP ρ)=aP ρ G::r.map (aP ρ);rw[Un h.1,afC h.2]
 |[],_::_,h=>by simp[Dg]at h
 |_::_,[],h=>by simp[Dg]at h
theorem aov(ht:kI C.tb){Z7:cI}{sm:Sm}{L:List gP}(A:L8 C sm s K args L=some l)(hb:cB K)(hk:bw C.tb ρ K)(ha:dk K.nx args)(N:kB K.nx s)(h:wG C.tb ρ K (E5 Z7 ρ s g args) L):wG C.tb ρ K (E5 Z7 ρ s g args) l:=by
 unfold L8 at A;split at A
 .rename_i E1 h1;split at A
  .rename_i E2 h2;split at A
   .rename_i E h3;split at A
    .rename_i hc;cases A;rw[aR]at hc;obtain⟨Y,ac⟩:=hc
     have ai:eY K.nx (some (.int .i64 0 0)::List.replicate sm.ks none):=by
      intro x v A;rcases ck.1 (jm A)with hm|hm
      .cases hm;exact eD hb.z
      grind
     have ad:∀F∈s.cur::s.up,∀p∈F,dk K.nx p.2:=by
      intro F hF;rcases ck.1 hF with rfl|hF
      .exact Hu N
      exact Ha N F hF
     obtain⟨a1,a2⟩:=Py hk ai ha h1;obtain⟨b1,b2⟩:=abQ hk ad a2 h2;obtain⟨c1,c2,_⟩:=(zA ht cF).fs hb hk b2 h3;obtain⟨r,hr,q,g1,g2,⟨g3,g4,g5,g6⟩,d,g7,g8,g9,ak⟩:=h;have Z:=ij.1 ac r hr;rw[aR,aR,NA]at Z;obtain⟨⟨y,ab⟩,o,ho,G⟩:=Z
     have hd:d=false:=by
      rw[g9]at ab;cases d;.rfl
      cases ab
     subst hd;unfold ad9 at G;split at G
     .rename_i E3 ah;rw[pI]at G;obtain⟨E4,af⟩:=G
      have ae:eY r.k.nx (E++List.replicate o.k none):=by
       intro x v A;rcases jA.1 (jm A)with hm|hm
       .exact(c2.mem _ hm v rfl).mono g3
       grind
      obtain⟨m1,m2,m3⟩:=F9 g2 ae g5 ah;obtain⟨n1,n2,n3⟩:=(zA ht cF).fs g4 g2 m2 af;have aa:=m1.trans n1;have aj:E4.length=E.length+o.k:=by rw[<-aa.1,dM,om]
      obtain⟨D,ag,q1,q2,q3⟩:=Ys (s:=s) hb hk c2 (o:=o) (ρ':=cg q E4) (λ x A=>by
       have J:E[x]? =some E[x]:=cW A;have S:=ij.1 Y _ (jm J);rw[pI]at S;obtain⟨v,hv⟩:=S;rw[hv]at J;rw[fG J,fG (aa.2 x v (by grind))];exact Nl (c2 x v J) g1) (λ x A=>by
       unfold cg aQ;grind) (n3 E4 .rfl) N
      refine⟨_,eK.2 ⟨o,ho,rfl⟩,D,ag,q1,q2,false,?_,(En _).symm,rfl,rfl⟩;rw[g7,q3];have e1:ev (cg q E4) o.res=ev q r.v:=m3 E4 n1;rw[e1];unfold afL at y;rw[aR,aR]at y;have e2:aP q r.s.cur=aP q s.cur:=Un y.1.2;have e3:r.s.up.map (aP q)=s.up.map (aP q):=afC y.2;have e4:aP q s.cur=aP ρ s.cur:=dc aq.cur (N q ρ g1.symm);have e5:s.up.map (aP q)=s.up.map (aP ρ):=dc aq.up (N q ρ g1.symm);have e6:aP ρ s.cur=aP D s.cur:=dc aq.cur (N ρ D ag);have e7:s.up.map (aP ρ)=s.up.map (aP D):=dc aq.up (N ρ D ag);show some (_,aP q r.s.cur::r.s.up.map (aP q),false)=some (_,aP D s.cur::s.up.map (aP D),false);grind
     cases G
    cases A
   cases A
  cases A
 cases A
theorem aoN(H:XH P gl pol bset base C M){f:Nat}(af:C.ct f g=some ct)(D:Ni C s K g ct args=some l)(hb:cB K)(L:bw C.tb ρ K)(ac:yH C M ρ K)(ha:dk K.nx args)(hs:kB K.nx s):
 wG C.tb ρ K (E5 (vω P pol gl bset base) ρ s g args) l:=by
 unfold Ni at D;split at D
 .rename_i E1 h1;split at D
  .rename_i E h2;split at D
   .rename_i hc;cases D;rw[aR]at hc;obtain⟨Y,A⟩:=hc
    have ah:eY K.nx (some (.int .i64 0 0)::List.replicate ct.ks.length none):=by
     intro x v D;have:=jm D;rcases ck.1 this with hm|hm
     .cases hm;exact eD hb.z
     grind
    obtain⟨a1,a2,a3⟩:=XZ L ah ha h1;obtain⟨b1,b2,b3⟩:=(zA H.tb cF).fs hb L a2 h2;have S:=a1.trans b1;have F:E.length=ct.ks.length+1:=by rw[<-S.1,cD,om]
    have aa:E[0]? =some (some (.int .i64 0 0)):=S.2 0 _ rfl;have ab:jO ρ (some (.int .i64 0 0))=SV.z:=by show SV.mk _ _ _ _=_;rw[L.z];rfl
    have hz:cg ρ E 0=SV.z:=by rw[fG aa];exact ab
    have J:OG ct.ks (cg ρ E):=by
     intro i hi;have ai:=Jw hi;have ad:i+1<E.length:=by omega
     have he:E[i+1]? =some E[i+1]:=cW ad;have ae:(E.drop 1)[i]? =some E[i+1]:=by grind
     rcases V5 Y i _ hi ae with h|⟨k,y,d,h⟩
     .have:cg ρ E (i+1)=SV.z:=by unfold cg aQ;rw[pJ,bM,he,h];rfl
      rw[this];rfl
     rw[h]at he;rw[fG he];rfl
    obtain⟨o,ho,ρ',c1,c2,c3,c4⟩:=H.ct f g ct af (cg ρ E) hz J (b3 E .rfl) (λ m lo hm=>by
     unfold Wd at A;cases G:C.self;.rw[G]at hm;cases hm
     rename_i q;obtain⟨f0,a,c⟩:=q;rw[G]at hm A;simp only at hm A;cases Z:Nat.beq f0 g;.rw[Z]at hm;cases hm
     rw[Z]at hm A;cases hm;simp only[jz]at A;cases hd:ct.dec;.rw[hd]at A;cases A
     rename_i p;obtain⟨x,l⟩:=p;rw[hd]at A;simp only at A;refine⟨x,l,rfl,?_⟩;split at A
     .rename_i y d hy;rw[aR]at A;have e1:=tI (ρ:=ρ) hy kG.rfl;have e2:=dr L A.1;have e3:=dr L A.2;have hM:=(ac _ _ _ G).2;have h0:(ρ 0).i=0:=by rw[L.z];rfl
      grind[b8]
     cases A)
    obtain⟨N,ag,q1,q2,q3⟩:=Ys (s:=s) hb L b2 (o:=o) (ρ':=ρ') (λ x D=>c1 x (by rw[<-F];exact D)) (λ x D=>c2 x (by rw[<-F];exact D)) c4 hs;refine⟨_,eK.2 ⟨o,ho,rfl⟩,N,ag,q1,q2,?_⟩;refine⟨false,?_,(En _).symm,rfl,rfl⟩;have e1:aE (cg ρ E) ct.args=aE ρ args:=a3 E b1;have:=c3 ((aX ρ s).cur::(aX ρ s).up);rw[e1]at this;rw[this,q3,hs ρ N ag];rfl
   cases D
  cases D
 .cases D
def aeD{l:List XV}(h:dk n l)(i:Nat):jW n (oQ i l):=λ ρ ρ' q=>by rw[<-Dd,<-Dd,h ρ ρ' q]
theorem UE(y:kB n s)(A:jW n T){rs:List CR}{l:List XV}(h:qc s T rs=some l):bg n (sw l):=λ ρ ρ' q=>by have D:=CA (ρ:=ρ) s T rs h;rw[y ρ ρ' q,A ρ ρ' q,CA s T rs h]at D;grind[DF]
theorem afp{M:Int}(H:XH P gl pol bset base C M):∀(m:Nat) {f n p:Nat} {c:CC} {a:XA} {r:List (eE×XA)} {ρ:bm},ot C m f n p c a=some r->lC C.tb ρ a->yH C M ρ a.k->
 Ds C.tb ρ a.k (Hs P gl (vω P pol gl bset base) n c (bG ρ a.T) (aX ρ a.s)) r
 |0,f,n,p,c,a,r,ρ,h,hg,N=>by unfold ot at h;cases h
 |m+1,f,n,p,c,a,r,ρ,h,hg,N=>by
  have IH:=@afp M H m;unfold ot at h
  have aw:Hf P C (vω P pol gl bset base) (yH C M) (λ g args s K=>
   if C.ok g then
    match C.ct f g with
    |some ct=>Ni C s K g ct args
    |none=>match C.fn g with
     |some F=>
      let op:=args.any XV.open
      let up:=cond op (s.cur::s.up) []
      match ot C m g (args.length+(F.n-args.length)) 0 F.c ⟨oQ 0 args,{w:=false,cur:=[],up:=up},K⟩with
      |some outs=>(match nv (AQ s op F.r) outs with
       |some ag=>(match C.sm f g with|some sm=>L8 C sm s K args ag|none=>some ag)
       |none=>none)
      |none=>none
     |none=>none
   else none):=by
   intro g args s K l ρ hx hb hk N ha hs;simp only at hx;split at hx
   .rename_i ay;refine⟨H.ok g ay,?_⟩;split at hx;.grind[aoN]
    split at hx
    .rename_i F hF;obtain⟨ap,ai⟩:=H.fn g F hF;split at hx
     .rename_i outs J
      have aj:∀{l:List gP},nv (AQ s (args.any XV.open) F.r) outs=some l->wG C.tb ρ K (E5 (vω P pol gl bset base) ρ s g args) l:=by
       intro l hx
       have an:lC C.tb ρ ⟨oQ 0 args,{w:=false,cur:=[],up:=cond (args.any XV.open) (s.cur::s.up) []},K⟩:=by
        refine⟨hb,hk,aeD ha 0,λ ρ ρ' q=>?_⟩;show aq.mk false [] ((cond (args.any XV.open) (s.cur::s.up) []).map (aP ρ))=aq.mk false [] ((cond (args.any XV.open) (s.cur::s.up) []).map (aP ρ'));cases args.any XV.open;.rfl
        have e1:aP ρ s.cur=aP ρ' s.cur:=dc aq.cur (hs ρ ρ' q);have e2:s.up.map (aP ρ)=s.up.map (aP ρ'):=dc aq.up (hs ρ ρ' q);grind
       obtain⟨o,ho,A,g1,g2,g3,g4⟩:=IH J an N;obtain⟨x,L,G⟩:=sT hx o ho;have g4:aJ P gl (vω P pol gl bset base) (args.length+(F.n-args.length)) F.c (bG ρ (oQ 0 args)) (aX ρ _)=some (o.1,bG A o.2.T,aX A o.2.s):=g4;have eo:(aE ρ args).any ae.open=args.any XV.open:=by grind[dz,any_map,Q1]
       unfold AQ at L;have aA:∀j,o.1≠.exit j:=by grind
       have ax:∀rs,qc o.2.s o.2.T F.r=some rs->mW F.r (some (o.1,bG A o.2.T,aX A o.2.s))=some (ev A (sw rs),(aX A o.2.s).up,o.2.s.w):=by
        intro rs aa;have e1:=CA (ρ:=A) o.2.s o.2.T F.r aa;cases az:o.1 with
        |exit j=>exact(aA j az).elim
        |normal=>show(match jC (aX A o.2.s) (bG A o.2.T) F.r with|some l=>some (lD l,(aX A o.2.s).up,(aX A o.2.s).w)|none=>none)=_;rw[e1];simp only[DF];rfl
        |ret=>show(match jC (aX A o.2.s) (bG A o.2.T) F.r with|some l=>some (lD l,(aX A o.2.s).up,(aX A o.2.s).w)|none=>none)=_;rw[e1];simp only[DF];rfl
       have L:(match qc o.2.s o.2.T F.r with
        |some l=>(match args.any XV.open with
         |true=>match o.2.s.up with
          |F::S=>some [(⟨sw l,[],{w:=s.w||o.2.s.w,cur:=F,up:=S},.eP (mZ o.2.s.w),o.2.k⟩:gP)]
          |[]=>none
         |false=>some [⟨sw l,[],s,.eP .clean,o.2.k⟩])
        |none=>none)=some x:=by
        grind
       cases aa:qc o.2.s o.2.T F.r;.rw[aa]at L;cases L
       rename_i rs;rw[aa]at L;have k1:=ax rs aa;cases ad:args.any XV.open
       .rw[ad]at L;cases L;have ac:bz P gl (vω P pol gl bset base) F (aE ρ args) []=some (ev A (sw rs),(aX A o.2.s).up,o.2.s.w):=by unfold bz;rw[yX,Dd,<-k1,<-g4];show mW F.r (aJ P gl _ _ F.c (bG ρ (oQ 0 args)) (aq.mk false [] []))=mW F.r (aJ P gl _ _ F.c (bG ρ (oQ 0 args)) (aq.mk false [] ((cond (args.any XV.open) (s.cur::s.up) []).map (aP ρ))));rw[ad];rfl
        refine⟨_,G _ (dp.2 rfl),A,g1,g3.k,⟨g2,g3.b,UE g3.s g3.T aa,hs.mono g2⟩,false,?_,(En _).symm,rfl,rfl⟩;rw[iU ap ai (by rw[eo];exact ad) ac];show some (_,(aX ρ s).cur::(aX ρ s).up,false)=some (_,(aX A s).cur::(aX A s).up,false);rw[hs ρ A g1]
       rw[ad]at L;simp only at L;cases ah:o.2.s.up;.rw[ah]at L;cases L
       rename_i F0 S0;rw[ah]at L;cases L;have ac:bz P gl (vω P pol gl bset base) F (aE ρ args) ((aX ρ s).cur::(aX ρ s).up)=some (ev A (sw rs),(aX A o.2.s).up,o.2.s.w):=by unfold bz;rw[yX,Dd,<-k1,<-g4];grind[aX,aP]
       have ao:=jG (pol:=pol) (bset:=bset) (base:=base) ap ai (by rw[eo];exact ad) ac;refine⟨_,G _ (dp.2 rfl),A,g1,g3.k,⟨g2,g3.b,UE g3.s g3.T aa,?_⟩,o.2.s.w,?_,rfl,rfl,rfl⟩;.intro ρ ρ' q;have e2:o.2.s.up.map (aP ρ)=o.2.s.up.map (aP ρ'):=dc aq.up (g3.s ρ ρ' q);rw[ah]at e2;have e3:aP ρ F0::S0.map (aP ρ)=aP ρ' F0::S0.map (aP ρ'):=e2;injection e3 with e4 e5;show aq.mk _ (aP ρ F0) (S0.map (aP ρ))=aq.mk _ (aP ρ' F0) (S0.map (aP ρ'));rw[e4,e5]
       rw[ao];show some (_,o.2.s.up.map (aP A),_)=some (_,aP A F0::S0.map (aP A),_);rw[ah];rfl
      split at hx
      .rename_i ag af;split at hx;.exact aov H.tb hx hb hk ha hs (aj af)
       cases hx;exact aj af
      cases hx
     cases hx
    cases hx
   cases hx
  cases c with
  |skip=>
   cases h;exact⟨_,dp.2 rfl,ρ,.rfl,be _,hg,VM⟩
  |exit id=>
   cases h;exact⟨_,dp.2 rfl,ρ,.rfl,be _,hg,adV⟩
  |ret=>
   cases h;exact⟨_,dp.2 rfl,ρ,.rfl,be _,hg,ZB⟩
  |ak l out=>
   simp only at h;split at h;.rename_i r' hr;cases h;obtain⟨b,hb,ρ',h1,Z,h3,Y⟩:=S7 (gl:=gl) (n:=n) H.tb H.st aw B5 hg N hr;obtain⟨t1,t2⟩:=Fa h3.T h3.s out;refine⟨_,eK.2 ⟨b,hb,rfl⟩,ρ',h1,Z,⟨h3.b,h3.k,t1,t2⟩,?_⟩;show aJ P gl _ n (.ak l out) (bG ρ a.T) (aX ρ a.s)=_;rw[Yw,Y];show some (eE.normal,me out (bG ρ' b.T) (aX ρ' b.s))=_;rw[Ay]
   cases h
  |dK l aF out=>
   simp only at h;split at h;.rename_i r' hr;cases h;obtain⟨b,hb,ρ',h1,Z,h3,Y⟩:=ajx (gl:=gl) (n:=n) H.tb H.st aw B5 hg N hr;obtain⟨t1,t2⟩:=Fa h3.T h3.s out;refine⟨_,eK.2 ⟨b,hb,rfl⟩,ρ',h1,Z,⟨h3.b,h3.k,t1,t2⟩,?_⟩;show aJ P gl _ n (.dK l aF out) (bG ρ a.T) (aX ρ a.s)=_;rw[Lf,Y];show some (eE.normal,me out (bG ρ' b.T) (aX ρ' b.s))=_;rw[Ay]
   cases h
  |seq x y=>
   simp only at h;split at h
   .rename_i outs J;obtain⟨o,ho,D,h1,Z,h3,Y⟩:=IH J hg N;obtain⟨z,hz,G⟩:=sT h o ho;obtain⟨oe,oa⟩:=o;have Y:aJ P gl _ n x (bG ρ a.T) (aX ρ a.s)=some (oe,bG D oa.T,aX D oa.s):=Y;cases oe with
    |normal=>
     obtain⟨q,hq,A,k1,k2,k3,k4⟩:=IH hz h3 (B5 N h1 Z);refine⟨q,G q hq,A,h1.trans k1 Z,fX Z k2,k3,?_⟩;show aJ P gl _ n (.seq x y) _ _=_;rw[wg,Y];exact k4
    |exit j=>
     cases hz;refine⟨_,G _ (dp.2 rfl),D,h1,Z,h3,?_⟩;show aJ P gl _ n (.seq x y) _ _=_;rw[wg,Y];rfl
    |ret=>
     cases hz;refine⟨_,G _ (dp.2 rfl),D,h1,Z,h3,?_⟩;show aJ P gl _ n (.seq x y) _ _=_;rw[wg,Y];rfl
   cases h
  |cond x y z=>
   simp only at h;split at h
   .rename_i v hv;split at h
    .rename_i bs ai;obtain⟨b0,e0,h1,g,av,D,Z,h3,Y⟩:=ack hg.b hg.k (iy hg.b.z hg.T hv) ai;obtain⟨w,hw,G⟩:=sT h g av;have Y:g.1=b0:=Y;obtain⟨g1,g2,_⟩:=h1 g av;have eT:bG ρ a.T=bG D a.T:=hg.T ρ D Z;have eS:aX ρ a.s=aX D a.s:=hg.s ρ D Z;have au:lC C.tb D {a with k:=g.2}:=⟨g2,h3,hg.T.mono g1,hg.s.mono g1⟩;have al:yH C M D g.2:=B5 N Z g1;split at hw;.rename_i am;rw[am]at Y;subst Y;obtain⟨q,hq,A,k1,k2,k3,k4⟩:=IH hw au al;refine⟨q,G q hq,A,Z.trans k1 g1,fX g1 k2,k3,?_⟩;show aJ P gl _ n (.cond x y z) _ _=_;rw[UO,gn hg.k.z hv,e0,eT,eS];exact k4
     rename_i am;rw[am]at Y;subst Y;obtain⟨q,hq,A,k1,k2,k3,k4⟩:=IH hw au al;refine⟨q,G q hq,A,Z.trans k1 g1,fX g1 k2,k3,?_⟩;show aJ P gl _ n (.cond x y z) _ _=_;rw[UO,gn hg.k.z hv,e0,eT,eS];exact k4
    cases h
   cases h
  |block id x=>
   simp only at h;split at h
   .rename_i outs J;cases h;obtain⟨o,ho,D,h1,Z,h3,Y⟩:=IH J hg N;obtain⟨oe,oa⟩:=o;have Y:aJ P gl _ n x (bG ρ a.T) (aX ρ a.s)=some (oe,bG D oa.T,aX D oa.s):=Y;cases oe with
    |normal=>
     refine⟨_,eK.2 ⟨_,ho,rfl⟩,D,h1,Z,h3,?_⟩;show aJ P gl _ n (.block id x) _ _=_;rw[La,Y];rfl
    |exit j=>
     refine⟨_,eK.2 ⟨_,ho,rfl⟩,D,h1,Z,h3,?_⟩;grind[La,aaU]
    |ret=>
     refine⟨_,eK.2 ⟨_,ho,rfl⟩,D,h1,Z,h3,?_⟩;show aJ P gl _ n (.block id x) _ _=_;rw[La,Y];rfl
   cases h
  |loop hd x=>
   simp only at h;split at h;.rename_i I hI;refine awn (Inva:=λ ρ=>yH C M ρ a.k) H.tb (λ ρ ρ' ha hi=>B5 hi ha (be _)) (λ {a'} {r'} {ρ'} aD aC ar aB=>?_) hg N h;exact IH aD aC λ f0 a2 c e=>⟨dF (ar f0 a2 c e).1 aB,(ar f0 a2 c e).2⟩
   split at h
   .rename_i outs J;obtain⟨t1,t2⟩:=Fa hg.T hg.s hd;obtain⟨o,ho,D,h1,Z,h3,Y⟩:=IH (a:=⟨(dI hd a.T a.s).1,(dI hd a.T a.s).2,a.k⟩) J ⟨hg.b,hg.k,t1,t2⟩ N;obtain⟨z,hz,G⟩:=sT h o ho;obtain⟨oe,oa⟩:=o;have Y:aJ P gl _ n x (bG ρ (dI hd a.T a.s).1) (aX ρ (dI hd a.T a.s).2)=some (oe,bG D oa.T,aX D oa.s):=Y;have ab:aJ P gl (vω P pol gl bset base) n (.loop hd x) (bG ρ a.T) (aX ρ a.s)=mY (aJ P gl (vω P pol gl bset base) n (.loop hd x)) (some (oe,bG D oa.T,aX D oa.s)):=by rw[iw,Ay,Y]
    cases oe with
    |normal=>
     obtain⟨q,hq,A,k1,k2,k3,k4⟩:=IH hz h3 (B5 N h1 Z);refine⟨q,G q hq,A,h1.trans k1 Z,fX Z k2,k3,?_⟩;show aJ P gl _ n (.loop hd x) _ _=_;rw[ab];exact k4
    |exit j=>
     cases hz;refine⟨_,G _ (dp.2 rfl),D,h1,Z,h3,?_⟩;show aJ P gl _ n (.loop hd x) _ _=_;rw[ab];rfl
    |ret=>
     cases hz;refine⟨_,G _ (dp.2 rfl),D,h1,Z,h3,?_⟩;show aJ P gl _ n (.loop hd x) _ _=_;rw[ab];rfl
   cases h
end
section
variable{F:cZ}
variable{ρ ρ':bm}{C:eL}{P:Program}{gl:aM}{n:Nat}{pol:FuncId->eV}{bset:FuncId->Bool}{base:eH}
mutual
theorem aAC:∀{v:XV},bdX n v=true->bg n v
 |.sc _,_=>vF
 |.int k x c,h=>eD (kQ h)
 |.bs x,h=>FL (kQ h)
 |.ss x,h=>Nd (kQ h)
 |.sl x o,h=>sP (kQ h)
 |.sx es o,h=>λ ρ ρ' ha=>by show ae.sl (cL ρ es) o=.sl (cL ρ' es) o;rw[afo h ρ ρ' ha]
 |.ptr _ _ _,_=>λ _ _ _=>rfl
 |.rp cs o,h=>Gs (y9 h)
 |.ms _ _ _ _,_=>λ _ _ _=>rfl
 |.fn f cs,h=>ZS (y9 h)
 |.agg cs,h=>KN (y9 h)
 |.aL cs,h=>axN (y9 h)
 |.un,_=>λ _ _ _=>rfl
theorem y9:∀{v:List XV},vr n v=true->dk n v
 |[],_=>λ _ _ _=>rfl
 |v::l,h=>λ ρ ρ' ha=>by simp only[vr,aR]at h;show ev ρ v::aE ρ l=ev ρ' v::aE ρ' l;rw[aAC h.1 ρ ρ' ha,y9 h.2 ρ ρ' ha]
theorem afo:∀{v:List (List XV)},Iy n v=true->∀ρ ρ':bm,bY n ρ ρ'->cL ρ v=cL ρ' v
 |[],_=>λ _ _ _=>rfl
 |v::l,h=>λ ρ ρ' ha=>by simp only[Iy,aR]at h;show aE ρ v::cL ρ l=aE ρ' v::cL ρ' l;rw[y9 h.1 ρ ρ' ha,afo h.2 ρ ρ' ha]
end
def ajO{f:cq}(h:Br n f=true):f.bd n:=by
 cases f with
 |le a b c=>simp only[Br,aR]at h;exact⟨kQ h.1,kQ h.2⟩
 |sl x m c nm bs=>
  simp only[Br,aR,ij]at h;exact⟨kQ h.1.1,kQ h.1.2,λ p q=>kQ (h.2 p q)⟩
 |str x s=>exact kQ h
 |bb x b=>exact kQ h
 |el x i c cells=>simp only[Br,aR]at h;exact⟨kQ h.1.1,kQ h.1.2,y9 h.2⟩
 |sum z a b c=>simp only[Br,aR]at h;exact⟨kQ h.1.1,kQ h.1.2,kQ h.2⟩
 |pr k l=>
  simp only[Br,ij]at h;intro e y;have:=h e y;cases e<;>exact kQ this
def acM:∀(ks:List Nat) (i j:Nat),(qh i ks)[j]? =match ks[j]?with|some b=>some (some (match b with|0=>.int .i64 (i+j) 0|1=>.sl (i+j) none|2=>.bs (i+j)|_=>.ss (i+j)))|none=>none
 |[],i,j=>by simp[qh]
 |b::ks,i,0=>rfl
 |b::ks,i,j+1=>by
  show(qh (i+1) ks)[j]? =match ks[j]?with|some b=>some (some (match b with|0=>.int .i64 (i+(j+1)) 0|1=>.sl (i+(j+1)) none|2=>.bs (i+(j+1))|_=>.ss (i+(j+1))))|none=>none
  rw[acM ks (i+1) j,show i+1+j=i+(j+1) by omega]
def II:∀(ks:List Nat) (i:Nat),(qh i ks).length=ks.length
 |[],i=>rfl
 |b::ks,i=>by show(qh (i+1) ks).length+1=_;rw[II ks (i+1)];rfl
def aaq{f:Nat}{sf:Option (Nat×Nat×Int)}(H:XH P gl pol bset base {C with self:=sf} M)(hm:db P (pol f) f=some F)(hb:bset f=false)(L:Kl ct=true){outs:List (eE×XA)}{rs:List gP}
 (ho:ot {C with self:=sf} m f (ct.args.length+(F.n-ct.args.length)) 0 F.c ⟨oQ 0 ct.args,{w:=false,cur:=[],up:=[]},sG ct⟩=some outs)
 (hr:nv (AQ {w:=false,cur:=[],up:=[]} false F.r) outs=some rs) (aj:rs.all (λ r=>ct.outs.any (QB {C with self:=sf} ct.ks r.v r.k))=true)
 (h0:ρ 0=SV.z) (hn:OG ct.ks ρ) (ag:∀f∈ct.pre,dL C.tb ρ f) (al:yH {C with self:=sf} M ρ (sG ct)):
 ∃o∈ct.outs,∃ρ',bY (ct.ks.length+1) ρ ρ'/\(∀x,ct.ks.length+1+o.k<=x->ρ' x=SV.z)/\(∀S,vω P pol gl bset base f (aE ρ ct.args) S=some (ev ρ' o.res,S,false))/\∀f∈o.post,dL C.tb ρ' f:=by
 unfold Kl at L;rw[aR,aR,aR]at L;obtain⟨⟨⟨w1,w2⟩,w3⟩,w4⟩:=L;have Y:(sG ct).nx=ct.ks.length+1:=rX;have ad:cB ({ls:=[],fs:=[],nx:=ct.ks.length+1}:XK):=⟨BH _,λ f G=>(by cases G),λ f G=>(by cases G)⟩;have ao:bw C.tb ρ ({ls:=[],fs:=[],nx:=ct.ks.length+1}:XK):=⟨h0,λ f G=>(by cases G),λ f G=>(by cases G)⟩;have ar:cB (sG ct):=E6 ad λ f G=>ajO (ij.1 w2 f G)
 have an:bw C.tb ρ (sG ct):=Dq ao ag;have aq:dk (sG ct).nx ct.args:=by rw[Y];exact y9 w1
 have ab:lC C.tb ρ ⟨oQ 0 ct.args,{w:=false,cur:=[],up:=[]},sG ct⟩:=⟨ar,an,aeD aq 0,λ _ _ _=>rfl⟩;obtain⟨o,am,ρ1,g1,g2,g3,g4⟩:=afp H m ho ab al;obtain⟨x,q,af⟩:=sT hr o am;have g1:bY (sG ct).nx ρ ρ1:=g1;rw[Y]at g1;have g2:(sG ct).nx<=o.2.k.nx:=g2;rw[Y]at g2;have g4:aJ P gl (vω P pol gl bset base) (ct.args.length+(F.n-ct.args.length)) F.c (bG ρ (oQ 0 ct.args)) (aX ρ _)=some (o.1,bG ρ1 o.2.T,aX ρ1 o.2.s):=g4;unfold AQ at q;have ah:∀j,o.1≠.exit j:=by intro j hj;rw[hj]at q;cases q
 have q:(match qc o.2.s o.2.T F.r with
  |some l=>some [(⟨sw l,[],{w:=false,cur:=[],up:=[]},.eP .clean,o.2.k⟩:gP)]
  |none=>none)=some x:=by
  cases A:o.1 with
  |exit j=>exact(ah j A).elim
  |normal=>rw[A]at q;exact q
  |ret=>rw[A]at q;exact q
 cases D:qc o.2.s o.2.T F.r;.rw[D]at q;cases q
 .rename_i l;rw[D]at q;cases q
  have ai:mW F.r (some (o.1,bG ρ1 o.2.T,aX ρ1 o.2.s))=some (ev ρ1 (sw l),(aX ρ1 o.2.s).up,o.2.s.w):=by
   have e1:=CA (ρ:=ρ1) o.2.s o.2.T F.r D;cases A:o.1 with
   |exit j=>exact(ah j A).elim
   |normal=>show(match jC (aX ρ1 o.2.s) (bG ρ1 o.2.T) F.r with|some l=>some (lD l,(aX ρ1 o.2.s).up,(aX ρ1 o.2.s).w)|none=>none)=_;rw[e1];simp only[DF];rfl
   |ret=>show(match jC (aX ρ1 o.2.s) (bG ρ1 o.2.T) F.r with|some l=>some (lD l,(aX ρ1 o.2.s).up,(aX ρ1 o.2.s).w)|none=>none)=_;rw[e1];simp only[DF];rfl
  have ac:bz P gl (vω P pol gl bset base) F (aE ρ ct.args) []=some (ev ρ1 (sw l),(aX ρ1 o.2.s).up,o.2.s.w):=by unfold bz;rw[yX,Dd,<-ai,<-g4];rfl
  have N:(aE ρ ct.args).any ae.open=false:=by
   rw[dz,any_map (λ a=>Q1 a)];cases h:ct.args.any XV.open;.rfl
   rw[h]at w3;cases w3
  have K:=ij.1 aj _ (af _ (dp.2 rfl));rw[NA]at K;obtain⟨co,ap,y⟩:=K;unfold QB at y;split at y
  .rename_i E hE;rw[pI]at y;obtain⟨E',av⟩:=y
   have J:∀(j:Nat),j<ct.ks.length->∃v,(some (XV.int .i64 0 0)::qh 1 ct.ks++List.replicate co.k none)[j+1]? =some (some v)/\bg (ct.ks.length+1) v/\jO ρ1 (some v)=ρ (j+1):=by
    intro j hj;have aa:ct.ks[j]? =some ct.ks[j]:=cW hj;have e1:(some (XV.int .i64 0 0)::qh 1 ct.ks++List.replicate co.k none)[j+1]? =(qh 1 ct.ks)[j]? :=by show((qh 1 ct.ks)++List.replicate co.k none)[j]? =_;rw[xp (by rw[II];exact hj)]
    rw[e1,acM,aa];refine⟨_,rfl,?_,?_⟩
    .split;.exact eD (by omega)
     .exact sP (by omega)
     .exact FL (by omega)
     exact Nd (by omega)
    have ej:ρ1 (1+j)=ρ (j+1):=by rw[Vm 1 j];exact(g1 (j+1) (by omega)).symm
    split;.rename_i ad;rw[ad]at aa;have:=hn j aa;show SV.mk ((ρ1 (1+j)).i+0) _ _ _=_;rw[ej,iY,<-this]
    .exact ej
    .exact ej
    exact ej
   have au:eY o.2.k.nx (some (XV.int .i64 0 0)::qh 1 ct.ks++List.replicate co.k none):=by
    intro x v q;cases x;.cases q;exact eD g3.b.z
    rename_i x;by_cases ak:x<ct.ks.length;.obtain⟨w,h1,h2,_⟩:=J x ak;rw[h1]at q;cases q;exact h2.mono g2
    have:(List.replicate co.k (none:Option XV))[x-(qh 1 ct.ks).length]? =some (some v):=by rw[<-xo (by rw[II];omega)];exact q
    have:=List.eq_of_mem_replicate (jm this);cases this
   obtain⟨a1,a2,a3⟩:=F9 g3.k au (UE g3.s g3.T D) hE;obtain⟨b1,b2,b3⟩:=(zA H.tb cF).fs g3.b g3.k a2 av;have Z:=a1.trans b1;have aw:E'.length=ct.ks.length+1+co.k:=by rw[<-Z.1];show((qh 1 ct.ks)++List.replicate co.k none).length+1=_;rw[dM,II,om];omega
   refine⟨co,ap,cg ρ1 E',λ x q=>?_,λ x q=>?_,λ S=>?_,b3 E' .rfl⟩
   .cases x;.rw[fG (Z.2 0 (.int .i64 0 0) rfl),h0];show _=SV.mk ((ρ1 0).i+0) _ _ _;rw[g3.k.z];rfl
    rename_i x;obtain⟨w,h1,_,h3⟩:=J x (by omega);rw[fG (Z.2 _ _ h1)];exact h3.symm
   .unfold cg aQ;rw[pJ,ma (by rw[aF];omega)];rfl
   rw[iU hm hb N ac];rw[a3 E' b1]
  cases y
def iZ.kV{Z7:cI}{tb:js}{c:Ct}{mo:Option (Int×Int)}(h:iZ Z7 tb g c none):iZ Z7 tb g c mo:=λ ρ h0 y q _=>h ρ h0 y q λ m lo e=>by cases e
def ZD{f:Nat}(Y:kI C.tb)(Z:∀t,C.st t=true->P.underlying t=some .string)(ac:∀g F,C.fn g=some F->db P (pol g) g=some F/\bset g=false)(ab:∀g,C.ok g=true->cy P g=true)
 (ad:∀f' g c,C.ct f' g=some c->iZ (vω P pol gl bset base) C.tb g c none\/(g=f/\c=ct/\ct.dec.isSome=true))
 (hm:db P (pol f) f=some F) (hb:bset f=false) (A:keeps C m f F ct=true):iZ (vω P pol gl bset base) C.tb f ct none:=by
 unfold keeps at A;rw[aR]at A;obtain⟨G,A⟩:=A;split at A
 .rename_i outs y;split at A
  .rename_i rs aa;cases K:ct.dec
   .have H:XH P gl pol bset base {C with self:=match ct.dec with|some (x,c)=>some (f,x,c)|none=>none} 0:=by
     refine⟨Y,Z,ac,ab,λ f' g c hc=>?_⟩;rcases ad f' g c hc with this|this
     .simp only[K];exact this
     rw[K]at this;exact absurd this.2.2 (by simp)
    intro ρ h0 S h _;exact aaq H hm hb G y aa A h0 S h (by intro f0 a c e;simp only[K]at e;cases e)
   rename_i p;obtain⟨x,lo⟩:=p;have D:=G;unfold Kl at D;rw[aR,K]at D;simp only[aR]at D;obtain⟨_,w5,w6⟩:=D;have q:(match ct.dec with|some (x,c)=>some (f,x,c)|none=>none)=some (f,x,lo):=by rw[K]
   have L:∀(k:Nat) (N:Int),(N-lo).toNat<=k->iZ (vω P pol gl bset base) C.tb f ct (some (N,lo)):=by
    intro k;induction k with
    |zero=>
     intro N hN ρ h0 S h J;obtain⟨x',l',e1,e2,e3⟩:=J N lo rfl;omega
    |succ k ih=>
     intro N hN ρ h0 S h J;obtain⟨x',l',e1,e2,e3⟩:=J N lo rfl;rw[K]at e1;cases e1
     have H:XH P gl pol bset base {C with self:=match ct.dec with|some (x,c)=>some (f,x,c)|none=>none} (ρ x).i:=by
      refine⟨Y,Z,ac,ab,λ f' g c hc=>?_⟩;simp only[q];rcases ad f' g c hc with this|this
      .exact this.kV
      obtain⟨e1,e2,_⟩:=this;subst e1;rw[e2];have:Nat.beq g g=true:=nX g;rw[this];exact ih _ (by omega)
     refine aaq H hm hb G y aa A h0 S h λ f0 a c e=>?_
     have e:(match ct.dec with|some (x,c)=>some (f,x,c)|none=>none)=some (f0,a,c):=e;rw[q]at e;cases e;exact⟨by rw[show(sG ct).nx=ct.ks.length+1 from rX];exact kQ w5,rfl⟩
   intro ρ h0 S h _;have ae:bw C.tb ρ ({ls:=[],fs:=[],nx:=ct.ks.length+1}:XK):=⟨h0,λ f hf=>(by cases hf),λ f hf=>(by cases hf)⟩;have ag:=dr (Dq ae h) w6;refine L _ ((ρ x).i+1) (be _) ρ h0 S h λ m' af e=>?_
   cases e;refine⟨x,lo,K,by omega,?_⟩;have:(ρ 0).i=0:=by rw[h0];rfl
   omega
  cases A
 .cases A
end
section
variable{P:Program}{gl:aM}{pol:FuncId->eV}{bset:FuncId->Bool}{base:eH}
def ai0(f:Nat):Option Nat->Bool
 |none=>true
 |some f'=>Nat.beq f' f
abbrev wo:=Nat×Option Nat×Nat×Ct
def Fl(i f g:Nat):List wo->Option Ct
 |[]=>none
 |p::l=>match Nat.beq p.2.2.1 g&&ai0 f p.2.1 with
  |true=>(match Nat.blt p.1 i||(Nat.beq p.1 i&&p.2.2.2.dec.isSome)with|true=>some p.2.2.2|false=>none)
  |false=>Fl i f g l
def UY{f:Nat}:∀{l:List wo} {c:Ct},Fl i f g l=some c->∃p∈l,p.2.2.1=g/\p.2.2.2=c/\(p.1<i\/(p.1=i/\c.dec.isSome=true))
 |[],c,h=>by cases h
 |p::l,c,h=>by
  unfold Fl at h;split at h
  .rename_i A;rw[aR]at A;split at h
   .rename_i y;cases h;refine⟨p,cS,cU A.1,rfl,?_⟩;rw[nZ,aR]at y;rcases y with y|y
    .exact .inl (kQ y)
    exact .inr ⟨cU y.1,y.2⟩
   cases h
  obtain⟨q,D,F⟩:=UY h;exact⟨q,cz _ D,F⟩
def Bu{α:Type}(Q:α->Prop):List α->Prop
 |[]=>True
 |a::l=>Q a/\Bu Q l
def Bu.mem{Q:α->Prop}:∀{l:List α},Bu Q l->∀a∈l,Q a
 |[],_,a,h=>by cases h
 |b::l,h,a,q=>by
  rcases ck.1 q with rfl|q
  .exact h.1
  exact h.2.mem a q
def Gz:List wo->Bool
 |[]=>true
 |p::l=>l.all (λ q=> !(Nat.beq p.1 q.1))&&Gz l
def agI:∀{l:List wo},Gz l=true->∀p∈l,∀q∈l,p.1=q.1->p=q
 |[],_,p,D,_,_,_=>by cases D
 |a::l,h,p,D,q,F,e=>by
  unfold Gz at h;rw[aR,ij]at h;rcases ck.1 D with A|A<;>rcases ck.1 F with y|y
  .rw[A,y]
  .subst A;have:=h.1 q y;rw[e,nX]at this;cases this
  .subst y;have:=h.1 p A;rw[e,nX]at this;cases this
  exact agI h.2 p A q y e
def U9(P:Program)(gl:aM)(pol:FuncId->eV)(bset:FuncId->Bool)(base:eH)(tb:js)(l:List wo)(p:wo):Prop:=
 iZ (vω P pol gl bset base) tb p.2.2.1 p.2.2.2 none\/
 ∃(C:eL) (F:cZ) (m:Nat),C.tb=tb/\C.ct=(λ f g=>Fl p.1 f g l)/\(∀t,C.st t=true->P.underlying t=some .string)/\(∀g F,C.fn g=some F->db P (pol g) g=some F/\bset g=false)/\(∀g,C.ok g=true->cy P g=true)/\db P (pol p.2.2.1) p.2.2.1=some F/\bset p.2.2.1=false/\keeps C m p.2.2.1 F p.2.2.2=true
def azL{tb:js}(S:kI tb){l:List wo}(Y:Gz l=true)(h:Bu (U9 P gl pol bset base tb l) l):∀p∈l,iZ (vω P pol gl bset base) tb p.2.2.1 p.2.2.2 none:=by
 have G:∀(i:Nat) (p:wo),p∈l->p.1<i->iZ (vω P pol gl bset base) tb p.2.2.1 p.2.2.2 none:=by
  intro i;induction i with
  |zero=>intro p _ A;omega
  |succ i N=>
   intro p A hi;rcases h.mem p A with Z|⟨C,F,m,e1,e2,e3,e4,e5,e6,e7,e8⟩
   .exact Z
   subst e1;refine ZD S e3 e4 e5 (λ f' g c L=>?_) e6 e7 e8;rw[e2]at L;obtain⟨q,K,J,D,y⟩:=UY L;rcases y with y|y
   .subst J D;exact .inl (N q K (by omega))
   have:=agI Y q K p A y.1;subst this;exact .inr ⟨J.symm,D.symm,by rw[D];exact y.2⟩
 exact λ p A=>G (p.1+1) p A (iW _)
end
end
end Go.Abs
