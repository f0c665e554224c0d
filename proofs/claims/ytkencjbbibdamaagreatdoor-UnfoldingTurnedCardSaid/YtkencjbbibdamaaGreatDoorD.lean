/- The value machine: its soundness. -/
import Derived.Test.YtkencjbbibdamaaGreatDoorB
import Derived.Test.YtkencjbbibdamaaGreatDoorC
set_option linter.all false
namespace Go.Abs
noncomputable section
open Go
variable{F cur:bI}{G' G0 Gu:Gh}{H' H0:ah}{L Z7:cI}{S:List bI}{U:VT}{Z:cR}{a:aa}{acall:aW}{args cs l:List ae}{Z9:List aa}{b:Int}{bef:Nat->Nat}{calls:Nat->cI}{d i j k m n o off sz u:Nat}{dst:Option Tmp}{e:pj}{es:aS}{fn:Func}{fz tk:Bool}{Z8:List Oper}{p:Nat×Nat}{pf:eV}{r:VR}{src:List Tmp}{st':aq}{t:TypeId}{v:ae}{α:Type}
section
variable{res:Option (aa×ah)}
variable{P:Program}{ng:Nat}{gl:aM}{G:Gh}{D:Nat}{T:VT}{T':Tr aa}{st:aq}{H:ah}{ρ:Bx}{I:Im}
def ρ0:Bx:=λ _ _=>none
def adx(ρ:Bx):kt ρ0 ρ:=λ _ _ _ e=>by cases e
def dA(S:List bI):aq:=(aH [] S)
def M0(st:aq)(d k:Nat):bE st d k=b7 (st.cur::st.up) d k:=rfl
def yo(S:List bI)(d k:Nat):bE (dA S) d k=b7 S d k:=by
 show(if d=S.length then lk ([]:bI) k else b7 S d k)=_;split
 .rename_i h;cases e:b7 S d k;.rfl
  rename_i cs;have:=cY e;omega
 rfl
def cn.congr(h:cn G st H)(e:∀d k,bE st' d k=bE st d k):cn G st' H where
 gd:=h.gd
 fJ:=h.fJ
 box:=λ d k cs g=>h.box d k cs (by rw[<-e];exact g)
 inj:=λ d k J y cs q u g A=>h.inj d k J y cs q u (by rw[<-e];exact g) (by rw[<-e];exact A)
 aC:=h.aC
 lq:=h.lq
def kr(D:Nat)(G:Gh)(S:List bI)(H:ah)(res:Option (aa×ah))(v:ae)(h:List bI)(dt:Bool):Prop:=∃a H' G',res=some (a,H')/\cn G' (dA h) H'/\cw D G (dA S) H G' (dA h) H' (ja (mZ dt)) (λ _=>True)/\aA ρ0 G'.I v a/\mw G' (.tmp D 0) v.cells a.cells
structure mz (ng:Nat) (gl:aM) (Z7:cI) (acall:aW):Prop where
 plain:∀f args S v S1 dt,Z7 f args S=some (v,S1,dt)->args.any ae.open=false->args.map bD=args->S1=S/\dt=false/\∀G H Z9,cn G (dA []) H->kJ ng gl G->bB ρ0 G.I args Z9->kr 0 G [] H (acall f Z9 H) v [] false
 open_:∀f args S v S1 dt,Z7 f args S=some (v,S1,dt)->args.any ae.open=true->args.map bD=args->∀G H Z9,cn G (dA S) H->kJ ng gl G->bB (cut S.length G.ρ) G.I args Z9->kr S.length G S H (acall f Z9 H) v S1 dt
def jg.iR{H:ah}{h:Nat->Nat->Prop}{q:Nat->Prop}(g:cw D G st H G' st' H' h q){s:bX}(y:rV D s)(k:jg G s es sz a):jg G' s es sz a:=by
 rcases k with k|⟨v,off,r,h1,Y,h3,N,M,K,J,A⟩
 .exact .inl k
 obtain⟨e1,e2⟩:=g.sD _ _ y J;exact .inr ⟨v,off,r,h1,g.im _ _ Y,h3,N,M,K,e1,e2.trans A⟩
def ab3(D:Nat)(dst:Option Tmp):bX->Option bX
 |.tmp d i j=>if d=D+1 then(match dst with|some t=>(if i=0 then some (.tmp D t j)else none)|none=>none)else if d=D/\dst=some i then none else some (.tmp d i j)
 |s=>some s
theorem aqP(h:Ok ng gl D G T T' st H){dt:Bool}(hc:kr (D+1) G (st.cur::st.up) H res v (F::S) dt){w:Bool}:
 ∃a H' G',res=some (a,H')/\Ok ng gl D G' (da n T dst v) (cG n T' dst a) {w,cur:=F,up:=S} H'/\cw D G st H G' {w,cur:=F,up:=S} H' (ja (mZ dt)) qq:=by
 obtain⟨a,H',G',h1,h2,h3,h4,h5⟩:=hc;have q:S.length=st.up.length:=by have:=h3.uk;simpa[dA]using this
 have y:∀d k,bE {w,cur:=F,up:=S} d k=bE (dA (F::S)) d k:=λ d k=>by rw[yo,M0]
 have ab:∀d k,bE (dA (st.cur::st.up)) d k=bE st d k:=λ d k=>by rw[yo,M0]
 refine⟨a,H',eG G' (ab3 D (fS n dst)),h1,⟨(h2.congr y).eG λ _ _ _=>rfl,?_,q.trans h.gC,h.iA.mono h3.im⟩,?_⟩
 .refine h.tmp.step (src:=[]) (λ d k u e=>?_) h3.im (wW (adx _) (cu.refl _) _ _ h4) (λ i hi j es sz c M K=>(h5 j es sz c M K).eG ?_) λ i j es sz c _ J ho=>(ho.iR h3 (show rV (D+1) (.tmp D i j)from iW D)).eG ?_
  .unfold cut at e⊢;split at e;.rename_i J;rw[ao J];show G'.ρ d k=some u;rw[h3.mh d k J];exact e
   cases e
  .show(if D+1=D+1 then _ else _)=_;rw[ao rfl,hi];rfl
  show(if D=D+1 then _ else if D=D/\fS n dst=some i then none else _)=_;grind
 .refine⟨h3.im,λ d k J=>h3.mh d k (by omega),λ k _=>h3.mh D k (by omega),λ d k u e e' N=>?_,h3.next,λ u N=>?_,λ f s A e=>?_,q,h3.nJ,λ f s e hf=>?_,h3.aG⟩;.have:=h3.live d k u (by rw[<-y];exact e) e' N;rw[ab]at this;exact this
  .rcases h3.rows u N with e|⟨d,k,M,K,e3⟩
   .exact .inl e
   grind
  .have Y:rV (D+1) s:=by
    cases s with
    |tmp d i j=>have:d<D:=A;show d<D+1;omega
    |box _ _ _=>exact A.elim
    |up s=>trivial
   obtain⟨M,K⟩:=h3.sD f s Y e;refine⟨?_,K⟩;show(G'.own f).bind _=some s;rw[M];cases s with
   |tmp d i j=>
    have:d<D:=A;simp only[xu,ab3];grind
   |box _ _ _=>exact A.elim
   |up s=>rfl
  obtain⟨s',e'⟩:=xK e;exact h3.qM f s' e' hf
open Classical in
noncomputable def DT(G:Gh)(st:aq)(H:ah)(fz:Bool):Gh where
 ρ:=ρ0
 I:=λ u=>match G.I u with|some r=>some r|none=>if fz=true/\∃d k,(bE st d k).isSome=true/\G.ρ d k=some u then H.objs.get u else none
 own:=λ f=>(G.own f).map .up
 tp:=G.tp
def FA:cu G.I (DT G st H fz).I:=λ u r e=>by show(match G.I u with|some r=>some r|none=>_)=_;rw[e]
def EI(d k:Nat):bE (dA []) d k=none:=by rw[yo];rfl
open Classical in
def aqR(h:cn G st H)(fz:Bool):cn (DT G st H fz) (dA []) H where
 gd:=h.gd
 fJ:=λ u r e=>by
  have e:(match G.I u with|some r=>some r|none=>if fz=true/\∃d k,(bE st d k).isSome=true/\G.ρ d k=some u then H.objs.get u else none)=some r:=e;split at e;.rename_i J y;cases e;exact h.fJ u r y
  split at e;.exact e
  cases e
 box:=λ d k cs e=>by rw[EI]at e;cases e
 inj:=λ d k M K cs A u e=>by rw[EI]at e;cases e
 lq:=λ d k u e=>by cases e
 aC:=λ f s e=>by
  have e:(G.own f).map bX.up=some s:=e;cases q:G.own f;.rw[q]at e;cases e
  rename_i s';exact h.aC f s' q
def Tz(D:Nat)(dst:Option Tmp):bX->Option bX
 |.up (.tmp d i j)=>if d=D/\dst=some i then none else some (.tmp d i j)
 |.up s=>some s
 |.tmp 0 0 j=>match dst with|some t=>some (.tmp D t j)|none=>none
 |_=>none
def Bd(G h:Gh)(D:Nat)(dst:Option Tmp)(fz:Bool):Gh where
 ρ:=G.ρ
 I:=match fz with|true=>G.I|false=>h.I
 own:=λ f=>(h.own f).bind (Tz D dst)
 tp:=h.tp
open Classical in
theorem aAH(h:Ok ng gl D G T T' st H)(hc:kr 0 (DT G st H fz) [] H res v [] false)(N:fz=true->wx v=true){w:Bool}:
 ∃a H' G',res=some (a,H')/\Ok ng gl D G' (da n T dst v) (cG n T' dst a) {st with w} H'/\cw D G st H G' {st with w} H' (ja .clean) qq:=by
 obtain⟨a,H',G1,h1,h2,h3,h4,h5⟩:=hc;have ad:∀d k,bE {st with w} d k=bE st d k:=λ _ _=>rfl
 have K:∀u,u<H.next->H'.objs.get u=H.objs.get u:=λ u J=>by
  rcases h3.rows u J with e|⟨d,k,_,e,_⟩
  .exact e
  rw[EI]at e;cases e
 have hI:cu G.I (Bd G G1 D (fS n dst) fz).I:=by
  cases fz;.exact FA.trans h3.im
  exact cu.refl _
 have ac:cu (Bd G G1 D (fS n dst) fz).I G1.I:=by
  cases fz;.exact cu.refl _
  exact FA.trans h3.im
 have A:∀u r,(Bd G G1 D (fS n dst) fz).I u=some r->u<H.next->G.I u=some r:=λ u r e J=>by
  cases fz;.have:=h3.nJ u r e J;have this:(match G.I u with|some r=>some r|none=>if false=true/\∃d k,(bE st d k).isSome=true/\G.ρ d k=some u then H.objs.get u else none)=some r:=this;grind
  exact e
 have ab:∀f,f<H.next->G.own f=none->G1.own f=none:=λ f hf e=>by
  cases q:G1.own f;.rfl
  rename_i s;obtain⟨s',e'⟩:=h3.qM f s q hf;have e':(G.own f).map bX.up=some s':=e';rw[e]at e';cases e'
 have M:∀f s s',G.own f=some s->Tz D (fS n dst) (.up s)=some s'->(Bd G G1 D (fS n dst) fz).own f=some s'/\G1.tp f=G.tp f:=λ f s s' e e'=>by obtain⟨q,y⟩:=h3.sD f (.up s) trivial (show(G.own f).map bX.up=some (.up s) by rw[e];rfl);refine⟨?_,y⟩;show(G1.own f).bind _=some s';rw[q];exact e'
 have Y:∀{s s':bX} {es:aS} {sz:Nat} {c:aa},jg G s es sz c->Tz D (fS n dst) (.up s)=some s'->jg (Bd G G1 D (fS n dst) fz) s' es sz c:=by
  intro s s' es sz c k e;rcases k with k|⟨v,off,r,k1,k2,k3,k4,k5,k6,k7,k8⟩
  .exact .inl k
  obtain⟨q,y⟩:=M _ _ _ k7 e;exact .inr ⟨v,off,r,k1,hI _ _ k2,k3,k4,k5,k6,q,y.trans k8⟩
 refine⟨a,H',Bd G G1 D (fS n dst) fz,h1,⟨⟨h2.gd,λ u r e=>h2.fJ u r (ac u r e),λ d k cs e=>?_,h.bN.inj,λ f s e=>?_,λ d k u e=>dF (h.bN.lq d k u e) h3.next⟩,?_,h.gC,h.iA.mono hI⟩,?_⟩
 .obtain⟨u,r,b⟩:=h.bN.box d k cs e;have J:=uW.lt h.bN b;refine⟨u,r,{ref:=b.ref,row:=by rw[K u J];exact b.row,rw:=b.rw,sz:=b.sz,aC:=b.aC,mem:=?_,im:=?_,un:=?_,cells:=xR (kt.refl _) hI _ _ b.cells,cell:=b.cell,own:=λ j es sz c q y=>Y (b.own j es sz c q y) rfl}⟩;.rw[h3.aG u J (show(G.own u).map bX.up=none by rw[b.un];rfl)];exact b.mem
  .cases e:(Bd G G1 D (fS n dst) fz).I u;.rfl
   rename_i r';have:=A u r' e J;rw[b.im]at this;cases this
  show(G1.own u).bind _=none;rw[ab u J b.un];rfl
 .have e:(G1.own f).bind _=some s:=e;cases q:G1.own f;.rw[q]at e;cases e
  rename_i s';exact h2.aC f s' q
 .refine h.tmp.step (src:=[]) (kt.refl _) hI ?_ (λ i hi j es sz c q y=>?_) λ i j es sz c _ hd ho=>Y ho ?_
  .cases fz;.exact wW (adx _) (cu.refl _) _ _ h4
   have:=N rfl;cases v with
   |sc b=>simp only[aA]at h4⊢;exact h4
   |_=>simp[wx]at this
  .rcases h5 j es sz c q y with k|⟨w,off,r,k1,k2,k3,k4,k5,k6,k7,k8⟩
   .exact .inl k
   cases fz;.refine .inr ⟨w,off,r,k1,k2,k3,k4,k5,k6,?_,k8⟩;show(G1.own r.aC).bind _=_;rw[k7,hi];rfl
   have:=N rfl;cases v with
   |sc b=>grind[ae.cells]
   |_=>simp[wx]at this
  show(if D=D/\fS n dst=some i then none else _)=_;grind
 .refine⟨hI,λ _ _ _=>rfl,λ _ _=>rfl,λ d k u e e' _=>⟨e,e'⟩,h3.next,λ u J=>.inl (K u J),λ f s N e=>?_,rfl,A,λ f s e hf=>?_,λ f hf e=>h3.aG f hf (show(G.own f).map bX.up=none by rw[e];rfl)⟩
  .refine M f s s e ?_;cases s with
   |tmp d i j=>
    have:d<D:=N;show(if d=D/\fS n dst=some i then none else _)=_;rw[aj (by omega)]
   |box _ _ _=>exact N.elim
   |up s=>rfl
  have e:(G1.own f).bind _=some s:=e;cases q:G1.own f;.rw[q]at e;cases e
  rename_i s';obtain⟨s2,y⟩:=h3.qM f s' q hf;have y:(G.own f).map bX.up=some s2:=y;cases e3:G.own f;.rw[e3]at y;cases y
  rename_i s3;exact⟨s3,rfl⟩
end
section
variable{g g':Nat->Option Row}
variable{P:Program}{ng:Nat}{gl:aM}{G:Gh}{D:Nat}{T:VT}{T':Tr aa}{st:aq}{H:ah}{ρ:Bx}{I:Im}
def agf:∀(n:Nat) {vs:List ae} {bs:List aa},cE I vs bs->vs.length=n*sz->bR I sz (mO sz n vs) bs
 |0,vs,bs,q,h=>by have y:vs=[]:=km (by simpa using h);subst y;rw[zR.1 q];simp[mO,bR]
 |n+1,vs,bs,q,h=>by rw[xy]at h;exact nt.2 ⟨by rw[n8];omega,aaV _ q,agf n (Zg _ q) (by rw[xz];omega)⟩
theorem Jk:∀(n:Nat) (vs:List ae),(mO sz n vs).length=n
 |0,_=>rfl
 |n+1,vs=>by simp[mO,Jk n]
theorem azC{len:Nat}{vs:List ae}{r:Row}(J:I u=some r)(h:cE I vs r.cells)(A:vs.length=len*sz)(q:len=0\/r.sz=sz):RP I (.sl (mO sz len vs) none) (.slice u 0 len none):=by
 have K:=agf len h A;have y:=xU h;simp only[RP];refine .inr ⟨u,0,none,r,sz,by rw[Jk],J,?_,?_,?_⟩
 .rcases q with rfl|e
  .exact .inl rfl
  exact .inr ⟨rfl,e⟩
 .rw[Jk];omega
 grind[Jk]
theorem aoH{ρ':Bx}{b:aa}(h:aA ρ I v b)(q:v.open=false)(y:v.fY=false):aA ρ' I v b:=by
 cases v with
 |sc a=>simp only[aA]at h⊢;exact h
 |sl es o=>exact h
 |fn f cs=>
  cases cs;.simp only[aA]at h⊢;exact h
  rename_i c cs;simp[ae.open]at q
 |agg cs=>
  simp only[aA]at h⊢;grind[KY,ae.open]
 |ptr d k off=>simp[ae.open]at q
 |rp cs off=>simp[ae.open]at q
 |ms d k n sz=>simp[ae.fY]at y
 |aL vs=>simp[ae.open]at q
 |un=>simp only[aA]at h⊢;exact h
theorem avU(v:ae):bD (gQ S v)=gQ S v:=by
 unfold gQ;split
 .split;.split<;>rfl
  rfl
 exact abg v
def X2(h:v.fY=false):gQ S v=bD v:=by cases v<;>first|rfl|simp[ae.fY]at h
def at6(v:ae):(bD v).fY=v.fY:=by cases v<;>rfl
theorem af3(l:List ae):(l.map (gQ S)).map bD=l.map (gQ S):=by grind[List.map_congr_left,avU]
def abX:∀{l:List ae} {Z9:List aa},l.any ae.fY=false->bB ρ I l Z9->bB ρ I (l.map (gQ S)) Z9
 |[],_,_,h=>h
 |v::l,_,q,h=>by obtain⟨c,cs,rfl,A,y⟩:=cf.1 h;simp only[xA,Bool.or_eq_false_iff]at q;exact cf.2 ⟨c,cs,rfl,by rw[X2 q.1];exact nu A,abX q.2 y⟩
open Classical in
theorem aa9(h:cn G st H):∀{l:List ae} {Z9:List aa},(l.any ae.fY=true->fz=true)->(l.map (gQ (st.cur::st.up))).any ae.open=false->bB (cut (D+1) G.ρ) G.I l Z9->bB ρ0 (DT G st H fz).I (l.map (gQ (st.cur::st.up))) Z9
 |[],_,_,_,h=>jI.2 (jI.1 h)
 |v::l,_,hf,q,hr=>by
  obtain⟨c,cs,rfl,h1,h2⟩:=cf.1 hr;simp only[fL,xA,Bool.or_eq_false_iff]at q;refine cf.2 ⟨c,cs,rfl,?_,aa9 h (λ e=>hf (by simp[e])) q.2 h2⟩;cases Y:v.fY;.have y:=q.1;rw[X2 Y]at y⊢;exact wW (kt.refl _) FA _ _ (aoH (nu h1) y (by rw[at6];exact Y))
  cases v with
  |ms d k len sz=>
   have y:=q.1;simp only[gQ]at y⊢;split at y
   .rename_i vs A;rw[<-M0]at A;obtain⟨u,r,J⟩:=h.box d k vs A;simp only[aA]at h1;obtain⟨K,M,rfl⟩:=h1;have:K=u:=by have:=GC _ _ _ _ _ M;rw[J.ref]at this;cases this;rfl
    subst this;split at y;.rename_i hd hl;simp only[aR,beq_iff_eq]at hl;have N:=Dw J.cells hd;show RP _ (.sl (mO sz len (vs.map di)) none) _;refine azC (r:=r) ?_ (ED FA _ _ N) (by grind) (.inr (by rw[J.sz];exact hl.2.symm));show(match G.I K with|some r=>some r|none=>if fz=true/\∃d k,(bE st d k).isSome=true/\G.ρ d k=some K then H.objs.get K else none)=some r;rw[J.im];simp only;rw[ao ⟨hf (by simp[ae.fY]),d,k,by rw[A];rfl,J.ref⟩];exact J.row
    simp[ae.open]at y
   simp[ae.open]at y
  |_=>simp[ae.fY]at Y
theorem anR{f:FuncId}(h:cy P f=true)(acall:aW)(args:List aa)(H:ah):ir P acall f args H=acall f args H:=by grind[cy,ir]
def Ok.w(h:Ok ng gl D G T T' st H){w:Bool}:Ok ng gl D G T T' {st with w} H:=⟨h.bN.congr λ _ _=>rfl,h.tmp,h.gC,h.iA⟩
theorem awB(K:mz ng gl Z7 acall)(h:Ok ng gl D G T T' st H){n:Nat}{dst:Option Tmp}{f:Operand}{args:List Operand}(A:wJ P gl Z7 T st f args=some r):
 ∃a H' G' δ,tw P acall H (aU ng T' f) (jo ng T' args)=some (a,H')/\r.src=[]/\r.e=.eP δ/\Ok ng gl D G' (da n T dst r.v) (cG n T' dst a) r.st H'/\cw D G st H G' r.st H' (ja δ) qq:=by
 unfold wJ at A;split at A
 .rename_i g cap l hf hl;obtain⟨fa,f1,f2,_⟩:=gq h.tmp h.iA hf;obtain⟨Z9,l1,l2⟩:=UM h.tmp h.iA hl;simp only[aA]at f2;obtain⟨bs,rfl,f3⟩:=f2;have y:=OF l2 f3;split at A
  .rename_i hq;split at A
   .rename_i v F S dt q;split at A
    .rename_i ab;cases A;have he:tw P acall H (aU ng T' f) (jo ng T' args)=acall g (Z9++bs) H:=by rw[f1,l1];show ir P acall g ([]++Z9++bs) H=_;rw[anR hq];rfl
     rw[he];cases J:((l++cap).map (gQ (st.cur::st.up))).any ae.open
     .obtain⟨e1,rfl,M⟩:=K.plain _ _ _ _ _ _ q J (af3 _);cases e1;have Y:∀fz:Bool,((l++cap).any ae.fY=true->fz=true)->kr 0 (DT G st H fz) [] H (acall g (Z9++bs) H) v [] false:=λ fz hf=>M (DT G st H fz) H (Z9++bs) (aqR h.bN fz) (h.iA.mono FA) (aa9 h.bN hf J y)
      obtain⟨a,H',G',g1,g2,g3⟩:=aAH (n:=n) (dst:=dst) (w:=st.w||false) h (Y ((l++cap).any ae.fY) id) (λ e=>by grind)
      exact⟨a,H',G',.clean,g1,rfl,rfl,g2,g3⟩
     have N:(l++cap).any ae.fY=false:=by grind
     have M:=K.open_ _ _ _ _ _ _ q J (af3 _) G H (Z9++bs) (h.bN.congr λ d k=>by rw[yo,M0]) h.iA (by
      have:(st.cur::st.up).length=D+1:=by simp[h.gC]
      rw[this];exact abX N y)
     rw[show(st.cur::st.up).length=D+1 by simp[h.gC]]at M;obtain⟨a,H',G',g1,g2,g3⟩:=aqP (n:=n) (dst:=dst) (w:=st.w||dt) h M;grind
    cases A
   cases A
  cases A
 .cases A
def Is:pj->fq
 |.eP d=>d
 |_=>.clean
def ZG(P:Program)(ng:Nat)(G:Gh)(st:aq)(H:ah)(T':Tr aa)(o:Op)(a:aa):pj->Prop
 |.read (some (d,k))=>∃u,G.ρ d k=some u/\(bE st d k).isSome=true/\∀g':Nat->Option Row,g' u=H.objs.get u->dP P ng T' g' o=some a
 |.read none=>∀g':Nat->Option Row,(∀u r,G.I u=some r->g' u=some r)->dP P ng T' g' o=some a
 |_=>True
def iV:pj->Nat
 |.pure=>0
 |.read _=>1
 |.new _=>2
 |.eP _=>3
theorem axW(o:Op):dj o<=3:=by unfold dj;split<;>omega
theorem ail{o:Op}(q:dj o=1)(h:dP P ng T' H.objs.get o=some a):bK P ng acall T' H o=some (a,H):=by grind[bK,fZ]
theorem avG{x:aa}(h:∀v off len q,x=.slice v off len q->g' v=g v):hY g' sz x=hY g sz x:=by
 cases x with
 |slice v off len q=>
  cases q;.grind[hY]
  rename_i c;rfl
 |_=>rfl
def aj4{x:aa}{lo hi:Option aa}(h:∀v off len q,x=.slice v off len q->g' v=g v):jY P g' t x lo hi=jY P g t x lo hi:=by
 have:=λ sz=>avG (sz:=sz) h
 cases x with
 |slice v off len q=>
  unfold jY;simp only[this]
 |_=>rfl
theorem alh{x:ae}{lo hi:Option ae}{J:aa}(h:Bn P t x lo hi=some v)(A:aA ρ I x J):∀u off len q,J=.slice u off len q->∃r,I u=some r:=by
 intro u off len q e;subst e;unfold Bn at h;split at h;.rename_i es o;have y:RP I (.sl es none) (.slice u off len q):=A;simp only[RP]at y;grind
 .simp only[aA]at A;cases A.1
 cases h
theorem LA(af:mz ng gl Z7 acall)(h:Ok ng gl D G T T' st H){n:Nat}{o:Oper}(q:eO P pf gl Z7 T st o=some r):
 ∃a H' G',bK P ng acall T' H o.op=some (a,H')/\Ok ng gl D G' (da n (gZ r.src T) o.dst r.v) (cG n T' o.dst a) r.st H'/\cw D G st H G' r.st H' (ja (Is r.e)) (D6 r.e o.dst)/\dj o.op=iV r.e/\ZG P ng G st H T' o.op a r.e/\(iV r.e<=1->H'=H):=by
 unfold eO at q;split at q
 .rename_i A;split at q;.rename_i v K;cases q;obtain⟨a,h1,M⟩:=alO h.tmp h.iA K;obtain⟨G',g1,N⟩:=stepT (n:=n) (dst:=o.dst) h M;exact⟨a,H,G',by grind[bK,fZ],g1,N,A,trivial,λ _=>rfl⟩
  cases q
 .rename_i A;split at q
  .rename_i t x J;split at q
   .rename_i y Y;split at q
    .rename_i v b st' K;cases q;obtain⟨ax,h1,M,_⟩:=gq h.tmp h.iA Y;obtain⟨a,G',g1,N,g3,g4,g5⟩:=avQ (n:=n) (dst:=o.dst) h M K;refine⟨a,H,G',?_,N,g3,A,?_,λ _=>rfl⟩;.grind[ail,dP,sj]
     cases b;.exact λ g' ab=>by grind[dP,sj]
     rename_i p;obtain⟨u,k1,k2,k3⟩:=g4 p.1 p.2 rfl;exact⟨u,k1,k2,λ g' ab=>by grind[dP,sj]⟩
    cases q
   cases q
  .rename_i t x lo hi J;split at q
   .rename_i y l m Y hl hm;split at q
    .rename_i v K;cases q;obtain⟨ax,h1,M,_⟩:=gq h.tmp h.iA Y;obtain⟨ag,l1,l2⟩:=X3 h.tmp h.iA hl;obtain⟨ai,m1,m2⟩:=X3 h.tmp h.iA hm;obtain⟨a,k1,k2⟩:=aoQ (g:=H.objs.get) K M l2 m2 h.bN.fJ;obtain⟨G',g1,N⟩:=stepT (n:=n) (dst:=o.dst) h (src:=[]) (k2.pr []);refine⟨a,H,G',?_,g1,N,A,λ g' ab=>?_,λ _=>rfl⟩;.grind[ail,dP,rW]
     rw[J];simp only[dP,h1,l1,m1,rW];rw[<-k1];refine aj4 λ u off len ad e=>?_
     obtain⟨r,q⟩:=alh K M u off len ad e;rw[ab u r q,h.bN.fJ u r q]
    cases q
   cases q
  cases q
 .rename_i A;split at q;.rename_i v src st' K;cases q;obtain⟨a,H',G',h1,M,h3⟩:=arJ (n:=n) h K;exact⟨a,H',G',by simp only[bK,A,h1],M,h3,A,trivial,λ e=>by simp[iV]at e⟩
  cases q
 .rename_i h0 h1 M;have A:dj o.op=3:=by grind[axW]
  have ac:bK P ng acall T' H o.op=r9 P ng acall T' H o.op:=by simp only[bK,A]
  rw[ac];unfold vq at q;split at q
  .rename_i t p x J;split at q
   .rename_i y v Y K;split at q;.rename_i st' d k hs;cases q;obtain⟨ay,y1,y2,_⟩:=gq h.tmp h.iA Y;obtain⟨av,v1,v2,v3⟩:=gq h.tmp h.iA K;obtain⟨H',G',g1,N,g3⟩:=azV (n:=n) (dst:=o.dst) h y2 v2 v3 hs;exact⟨.tuple [],H',G',by grind[r9,sF],N,g3,A,trivial,λ e=>by simp[iV]at e⟩
    cases q
   cases q
  .rename_i f args ts J;obtain⟨a,H',G',δ,k1,k2,k3,k4,k5⟩:=awB (n:=n) (dst:=o.dst) af h q;rw[k2,k3];exact⟨a,H',G',by grind[r9,qQ],k4,k5,A,trivial,λ e=>by simp[iV]at e⟩
  .rename_i s x ts J;split at q
   .rename_i y z Y hz;split at q;.rename_i v K;cases q;obtain⟨ay,y1,y2,y3⟩:=gq h.tmp h.iA Y;obtain⟨az,z1,z2,_⟩:=gq h.tmp h.iA hz;obtain⟨a,H',G',g1,N,g3⟩:=awX (n:=n) (dst:=o.dst) h y2 y3 z2 K;refine⟨a,H',G',?_,N,g3,A,trivial,λ e=>by simp[iV]at e⟩;rw[J];simp only[r9,qQ];show yL P H _ (zr (aU ng T' s) (zr (aU ng T' x) (some [])))=_;rw[y1,z1];exact g1
    cases q
   cases q
  cases q
end
section
variable{o:Oper}
variable{P:Program}{ng:Nat}{gl:aM}{G:Gh}{D:Nat}{T:VT}{T':Tr aa}{st:aq}{H:ah}
theorem Wu:(st.w=true->(m9 st d k cs).w=true)/\(d=st.up.length\/(m9 st d k cs).w=true):=by grind[m9]
theorem awN:(oU st d k cs).w=st.w:=by unfold oU;split<;>rfl
theorem Ps(q:eO P pf gl Z7 T st o=some r):(st.w=true->r.st.w=true)/\∀d k,ja (Is r.e) d k->d=st.up.length\/r.st.w=true:=by
 unfold eO at q;split at q
 .split at q;.cases q;exact⟨id,λ _ _ h=>h.elim⟩
  cases q
 .split at q
  .split at q
   .split at q;.rename_i x N v b st' A;cases q;refine⟨λ J=>?_,λ _ _ h=>h.elim⟩;show st'.w=true;unfold vk at A;grind[awN]
    cases q
   cases q
  .split at q
   .split at q;.cases q;exact⟨id,λ _ _ h=>h.elim⟩
    cases q
   cases q
  cases q
 .split at q
  .rename_i v src st' A;cases q;refine⟨λ J=>?_,λ _ _ h=>h.elim⟩;show st'.w=true;have K:∀k cs s,gY T st k cs=some s->s.w=true:=by grind[gY]
   unfold xO at A;split at A;.grind
   .grind
   .grind
   .split at A;.grind
    cases A
   cases A
  cases q
 unfold vq at q;split at q
 .split at q
  .split at q
   .rename_i st' d k y;cases q;unfold BP at y;split at y
    .split at y
     .split at y;.cases y;exact⟨Wu.1,λ d' M e=>by obtain⟨rfl,_⟩:=e;exact Wu.2⟩
      cases y
     cases y
    cases y
   cases q
  cases q
 .unfold wJ at q;split at q
  .split at q
   .split at q
    .rename_i v F S dt Y;split at q
     .cases q;refine⟨λ J=>by simp[J],λ d k e=>?_⟩;cases dt;.exact e.elim
      exact .inr (by simp)
     cases q
    cases q
   cases q
  cases q
 .split at q
  .split at q;.cases q;exact⟨id,λ _ _ h=>h.elim⟩
   cases q
  cases q
 cases q
def TW(D:Nat)(w:Bool)(d:Nat)(_:Nat):Prop:=d=D\/w=true
def TW.mono{w w':Bool}(h:w=true->w'=true)(d k:Nat)(e:TW D w d k):TW D w' d k:=e.imp id h
def tZ:Nat->Prop:=λ _=>True
def BW(J:nF G D T T')(h:uq Z8 T o=true):bJ Z8 T' o=uE Z8 T o:=by
 unfold uq at h;unfold bJ uE;split at h;.rename_i e;rw[e]
 rename_i j b e;rw[e];simp only;split at h
 .rename_i K y;rw[y];simp only;split at h
  .rename_i d A;rw[A];simp only;have:=(Ld J d).1;split at h;.rename_i c q;rw[q]at this;simp only[aA]at this;rw[this.1,q]
   .rename_i q;rw[q]at this;simp only[aA]at this;rw[this,q]
   cases h
  cases h
 cases h
def KR(h:Ok ng gl D G T T' st H):∃G',Ok ng gl D G' (da n T dst .un) (cG n T' dst (.tuple [])) st H/\cw D G st H G' st H (ja .clean) qq:=stepT (src:=[]) h ⟨by simp[aA],λ _ _=>none,λ j es sz c y q=>.inl ((iF (v:=.un) (by simp) rfl) j es sz c y q)⟩
def Pb(A:mz ng gl Z7 acall){n:Nat}:∀{l:List Oper} {G:Gh} {T:VT} {T':Tr aa} {st:aq} {H:ah} {N:VT} {bU:aq},Ok ng gl D G T T' st H->uT P pf gl Z7 n Z8 l T st=some (N,bU)->
 (st.w=true->bU.w=true)/\∃q J K,eQ P ng acall n Z8 l T' H=some (q,J)/\Ok ng gl D K N q bU J/\cw D G st H K bU J (TW D bU.w) tZ
 |[],G,T,T',st,H,N,bU,h,e=>by cases e;exact⟨id,T',H,G,rfl,h,cw.refl _ _ _ _ _ _⟩
 |o::l,G,T,T',st,H,N,bU,h,e=>by
  simp only[uT]at e;split at e
  .rename_i hk Y;split at e
   .rename_i r hr;obtain⟨a,H1,G1,h1,h2,h3,_⟩:=LA (n:=n) A h hr;obtain⟨w1,w2⟩:=Ps hr;obtain⟨M,q,J,K,h4,h5,h6⟩:=Pb A h2 e;refine⟨λ y=>M (w1 y),q,J,K,?_,h5,h3.trans h6 (λ d k y=>?_) (λ _ _ y=>y) (λ _ _=>trivial) (λ _ _=>trivial)⟩;.show Bool.rec (motive:=λ _=>Option (Tr aa×ah)) _ (Option.rec (motive:=λ _=>Option (Tr aa×ah)) none (λ r=>eQ P ng acall n Z8 l (cG n T' o.dst r.1) r.2) (bK P ng acall T' H o.op)) (bJ Z8 T' o)=_;rw[BW h.tmp hk,Y,h1];exact h4
    rcases w2 d k y with e|e
    .exact .inl (e.trans h.gC)
    exact .inr (M e)
   cases e
  .rename_i hk Y;obtain⟨G1,h2,h3⟩:=KR (n:=n) (dst:=o.dst) h;obtain⟨M,q,J,K,h4,h5,h6⟩:=Pb A h2 e;refine⟨M,q,J,K,?_,h5,h3.trans h6 (λ d k y=>y.elim) (λ _ _ y=>y) (λ _ _=>trivial) (λ _ _=>trivial)⟩;show Bool.rec (motive:=λ _=>Option (Tr aa×ah)) (eQ P ng acall n Z8 l (cG n T' o.dst (.tuple [])) H) _ (bJ Z8 T' o)=_;rw[BW h.tmp hk,Y];exact h4
  cases e
end
section
variable{S:eX}{es:List (Nat×Tr Row)}{o:Op}{o0:Nat->Option Row}{δ:fq}
variable{P:Program}{ng:Nat}{gl:aM}{G:Gh}{D:Nat}{T:VT}{T':Tr aa}{st:aq}{H:ah}
mutual
theorem Ob:∀a:aa,dZ a a=true
 |.bool b=>by simp[dZ]
 |.int k n=>by simp[dZ]
 |.str s=>by simp[dZ]
 |.nilPtr=>rfl
 |.ptr _ _=>by simp[dZ]
 |.ai=>rfl
 |.slice _ _ _ _=>by simp[dZ]
 |.dq=>rfl
 |.nilFunc=>rfl
 |.iface=>rfl
 |.func f a b=>by simp[dZ,GK a,GK b]
 |.agg cs=>by simp[dZ,GK cs]
 |.tuple cs=>by simp[dZ,GK cs]
theorem GK:∀l:List aa,qG l l=true
 |[]=>rfl
 |a::l=>by simp[qG,Ob a,GK l]
end
def mu(o0:Nat->Option Row):List (Nat×Tr Row)->Nat->Nat->Option Row
 |[],_=>o0
 |e::es,k=>if k=es.length+1 then e.2.get else mu o0 es k
theorem De{e:Nat×Tr Row}(h:k<=es.length):mu o0 (e::es) k=mu o0 es k:=by show(if k=es.length+1 then _ else _)=_;grind
theorem FN{e:Nat×Tr Row}:mu o0 (e::es) (es.length+1)=e.2.get:=by show(if es.length+1=es.length+1 then _ else _)=_;rw[ao rfl]
theorem aso{e:Nat×fq}{es:List (Nat×fq)}(q:m<=es.length)(h:k<=es.length):iH p m k (e::es)=iH p m k es:=by grind[iH]
theorem aaA(q:m<=n):∀{es:List (Nat×fq)},es.length<=n->iH p m (n+1) es=iH p m n es
 |[],_=>rfl
 |e::es,h=>by
  simp only[cD]at h;have a:decide (min m (n+1)<=es.length)=decide (min m n<=es.length):=by grind
  have b:decide (es.length<max m (n+1))=decide (es.length<max m n):=by grind
  simp only[iH,a,b,aaA q (es:=es) (by omega)]
theorem ac6{e:Nat×fq}{es:List (Nat×fq)}(q:m<=es.length)(h:iH p m (es.length+1) (e::es)=true):tH p e.2=true/\iH p m es.length es=true:=by grind[iH,aaA]
def acn:∀{es:List (Nat×fq)},iH p m m es=true
 |[]=>rfl
 |e::es=>by
  have:(decide (min m m<=es.length)&&decide (es.length<max m m))=false:=by simp
  simp only[iH,this,Bool.not_false,Em,BF];exact acn
def abO:∀{es:List (Nat×fq)},iH p m k es=iH p k m es
 |[]=>rfl
 |e::es=>by simp only[iH,Nat.min_comm m k,Nat.max_comm m k,abO (es:=es)]
def ajo(h:tH (d,k) δ=true):¬ja δ d k:=by
 cases δ with
 |clean=>exact id
 |box y q=>
  rintro⟨rfl,rfl⟩
  simp[tH]at h
 |all=>simp[tH]at h
def aw1{Z b:Bool}(h:D6 (.new b) dst k):(Z||b)=true:=by
 cases b;.exact h.elim
 cases Z<;>rfl
def Jq(P:Program)(ng:Nat)(G0:Gh)(aK:aq)(H0 H:ah)(S:eX)(Z:cR)(r:Nat×Tr aa×Op×aa):Prop:=
 (∀h:Nat->Option Row,(∀u w,G0.I u=some w->h u=some w)->dP P ng r.2.1 h r.2.2.1=some r.2.2.2)\/
 ∃b m,(r.1,b,m)∈Z.rs/\m<=Z.es.length/\match b with
  |none=>dP P ng r.2.1 (mu H0.objs.get S.es m) r.2.2.1=some r.2.2.2
  |some p=>∃u row,(bE aK p.1 p.2).isSome=true/\G0.ρ p.1 p.2=some u/\(∀h:Nat->Option Row,h u=row->dP P ng r.2.1 h r.2.2.1=some r.2.2.2)/\(∀k,k<=Z.es.length->iH p m k Z.es=true->mu H0.objs.get S.es k u=row)/\(iH p m Z.es.length Z.es=true->H.objs.get u=row)
structure kg (P:Program) (ng:Nat) (D:Nat) (G0:Gh) (aK:aq) (H0:ah) (S:eX) (Z:cR) (G:Gh) (st:aq) (H:ah):Prop where
 cA:S.cA=Z.cA
 idx:S.es.map (·.1)=Z.es.map (·.1)
 iR:cw D G0 aK H0 G st H (λ _ _=>True) (λ _=>Z.an=true)
 M8:Z.cA=[]->H=H0
 D0:∀k,k<=Z.es.length->∀u r,G0.I u=some r->mu H0.objs.get S.es k u=some r
 now:Z.al=false->∀u,mu H0.objs.get S.es Z.es.length u=H.objs.get u
 box:∀d k u,(bE aK d k).isSome=true->G0.ρ d k=some u->∀m,m<=Z.es.length->iH (d,k) m Z.es.length Z.es=true->mu H0.objs.get S.es m u=H.objs.get u
 reads:∀r∈S.rs,Jq P ng G0 aK H0 H S Z r
def kg.len{aK:aq}(h:kg P ng D G0 aK H0 S Z G st H):S.es.length=Z.es.length:=by have:=dc List.length h.idx;simpa using this
def kg.start(h:cn G st H):kg P ng D G st H ⟨[],[],[]⟩ ⟨[],[],false,false,[]⟩ G st H where
 cA:=rfl
 idx:=rfl
 iR:=cw.refl _ _ _ _ _ _
 M8:=λ _=>rfl
 D0:=λ _ _ u r e=>h.fJ u r e
 now:=λ _ _=>rfl
 box:=λ _ _ _ _ _ _ _ _=>rfl
 reads:=λ _ q=>by cases q
def kg.rows{aK:aq}(h:kg P ng D G0 aK H0 S Z G st H)(s0:cn G0 aK H0){N:Nat->Prop}(g:cw D G st H G' st' H' (ja δ) N)(Y:(bE aK d k).isSome=true)(K:G0.ρ d k=some u)(hc:tH (d,k) δ=true):H'.objs.get u=H.objs.get u:=by
 have q:=s0.lq d k u K;rcases g.rows u (dF q h.iR.next)with e|⟨M,J,e1,e2,e3⟩
 .exact e
 obtain⟨e4,e5⟩:=h.iR.live M J u e2 e3 q;obtain⟨c1,A⟩:=pI.1 Y;obtain⟨c2,y⟩:=pI.1 e4;obtain⟨rfl,rfl⟩:=s0.inj M J d k c2 c1 u y A e5 K;exact(ajo hc e1).elim
theorem kg.step{aK:aq}(h:kg P ng D G0 aK H0 S Z G st H)(s0:cn G0 aK H0)(av:aK.up.length=D)(hs:cn G st H)(hD:st.up.length=D){bef:Nat}{Z':cR}
 (g:cw D G st H G' st' H' (ja (Is e)) (D6 e dst)) (ab:dj o=iV e) (K:ZG P ng G st H T' o a e) (hH:iV e<=1->H'=H) (hz:uA bef i Z e=some Z'):
 ∃S',ib bef i T' o S (a,H')=some S'/\kg P ng D G0 aK H0 S' Z' G' st' H':=by
 have ad:=h.len;have J:∀b:Bool,(Z.an=true->b=true)->(∀k,D6 e dst k->b=true)->cw D G0 aK H0 G' st' H' (λ _ _=>True) (λ _=>b=true):=λ b h1 h2=>h.iR.trans g (λ _ _ _=>trivial) (λ _ _ _=>trivial) (λ _ M=>h1 M) h2
 cases e with
 |pure=>
  cases hz;have hH:=hH (by simp[iV]);subst hH;refine⟨S,by simp only[ib,ab,iV],{h with iR:=J _ id (λ _ M=>M.elim)}⟩
 |read b=>
  have hH:=hH (by simp[iV]);subst hH;have hS:ib bef i T' o S (a,H')=some (sW i T' o S a):=by simp only[ib,ab,iV]
  have g1:cw D G0 aK H' G' st' H' (λ _ _=>True) (λ _=>Z.an=true)->True:=λ _=>trivial
  have Y:∀A:cR,A.cA=Z.cA->A.es=Z.es->A.al=Z.al->A.an=Z.an->(∀x∈Z.rs,x∈A.rs)->Jq P ng G0 aK H0 H' (sW i T' o S a) A (i,T',o,a)->kg P ng D G0 aK H0 (sW i T' o S a) A G' st' H':=by
   intro A z1 z2 z3 z4 z5 z6;refine⟨by rw[z1];exact h.cA,by rw[z2];exact h.idx,by rw[z4];exact J _ id (λ _ M=>M.elim),by rw[z1];exact h.M8,by rw[z2];exact h.D0,by rw[z3,z2];exact h.now,by rw[z2];exact h.box,λ r hr=>?_⟩;have hr:r∈(i,T',o,a)::S.rs:=hr;rcases ck.1 hr with rfl|hr
   .exact z6
   rcases h.reads r hr with k|⟨b,m,k1,k2,k3⟩
   .exact .inl k
   refine .inr ⟨b,m,z5 _ k1,by grind,?_⟩;rw[z2];exact k3
  have aj:Z.al=false->dP P ng T' H'.objs.get o=some a->∀A:cR,A.es=Z.es->(i,(none:Option (Nat×Nat)),Z.es.length)∈A.rs->Jq P ng G0 aK H0 H' (sW i T' o S a) A (i,T',o,a):=by intro N hr A z2 z5;refine .inr ⟨none,Z.es.length,z5,by simp_all,?_⟩;have:mu H0.objs.get S.es Z.es.length=H'.objs.get:=funext (h.now N);show dP P ng T' (mu H0.objs.get S.es Z.es.length) o=some a;grind
  cases b
  .have K:∀g':Nat->Option Row,(∀u r,G.I u=some r->g' u=some r)->dP P ng T' g' o=some a:=K;simp only[uA]at hz;cases hp:Z.cA;.simp only[hp]at hz;cases hz;refine⟨_,hS,Y Z rfl rfl rfl rfl (λ _ hx=>hx) (.inl λ g' ap=>K g' λ u r e=>?_)⟩;have hh:=h.M8 hp;exact ap u r (h.iR.nJ u r e (by rw[<-hh];exact(hs.lt e).1))
   rename_i y ys;cases N:Z.al;.simp only[hp,N]at hz;cases hz;exact⟨_,hS,Y _ hp.symm rfl N.symm rfl (λ _ hx=>cz _ hx) (aj N (K _ hs.fJ) _ rfl (cS ..))⟩
   simp_all
  rename_i p;have K:∃u,G.ρ p.1 p.2=some u/\(bE st p.1 p.2).isSome=true/\∀g':Nat->Option Row,g' u=H'.objs.get u->dP P ng T' g' o=some a:=K;obtain⟨u,r1,r2,r3⟩:=K;simp only[uA]at hz;cases ai:Z.an
  .simp only[ai]at hz;cases hz;have au:p.1<=D:=by obtain⟨c,hc⟩:=pI.1 r2;have:=NV hc;omega
   have af:G0.ρ p.1 p.2=some u:=by
    rcases rK p.1 D with e|e
    .rw[<-h.iR.mh p.1 p.2 e];exact r1
    have:p.1=D:=by omega
    rw[this,<-h.iR.nq p.2 (by rw[ai];simp),<-this];exact r1
   have am:=(h.iR.live p.1 p.2 u r2 r1 (s0.lq _ _ _ af)).1;refine⟨_,hS,Y _ rfl rfl rfl ai.symm (λ _ hx=>cz _ hx) (.inr ⟨some p,Z.es.length,cS ..,be _,u,H'.objs.get u,am,af,r3,λ k M q=>?_,λ _=>rfl⟩)⟩;rw[abO]at q;exact h.box p.1 p.2 u am af k M q
  grind
 |new nb=>
  cases hz;have ak:∀d k u,(bE aK d k).isSome=true->G0.ρ d k=some u->H'.objs.get u=H.objs.get u:=λ d k u hl hu=>h.rows s0 g hl hu rfl
  refine⟨HM i S,by simp only[ib,ab,iV],⟨?_,h.idx,J _ (λ e=>by rw[e];rfl) (λ _ e=>aw1 e),λ hp=>(by cases hp),h.D0,λ N=>(by cases N),λ d k u hl hu m hm q=>?_,λ r hr=>?_⟩⟩;.show i::S.cA=i::Z.cA;rw[h.cA]
  .rw[ak d k u hl hu];exact h.box d k u hl hu m hm q
  rcases h.reads r hr with k|⟨b,m,k1,k2,k3⟩
  .exact .inl k
  refine .inr ⟨b,m,k1,k2,?_⟩;cases b;.exact k3
  rename_i p;obtain⟨u,row,q1,q2,q3,q4,q5⟩:=k3;exact⟨u,row,q1,q2,q3,q4,λ q=>by grind⟩
 |eP δ=>
  simp only[uA]at hz;split at hz
  .rename_i hp;cases hz;have hS:ib bef i T' o S (a,H')=some (Bc i S H'):=by simp only[ib,ab,iV,h.cA,hp]
   refine⟨Bc i S H',hS,⟨?_,?_,J _ id (λ _ M=>M.elim),λ hp=>(by cases hp),λ k M u r e=>?_,λ _ u=>?_,λ d k u hl hu m hm q=>?_,λ r hr=>?_⟩⟩;.show i::S.cA=i::Z.cA;rw[h.cA]
   .show i::S.es.map (·.1)=i::Z.es.map (·.1);rw[h.idx]
   .show mu H0.objs.get ((i,H'.objs)::S.es) k u=some r;have M:k<=Z.es.length+1:=M;rcases rK k (Z.es.length+1)with ag|ag
    .rw[De (by omega)];exact h.D0 k (by omega) u r e
    have:k=S.es.length+1:=by omega
    rw[this,FN];have hu:=s0.lt e;have hi:=h.iR.im u r e;rcases g.rows u (hs.lt hi).1 with e2|⟨d',k',e1,e2,e3⟩
    .rw[e2];exact hs.fJ u r hi
    obtain⟨c2,ar⟩:=pI.1 e2;obtain⟨u2,r2,bo⟩:=hs.box d' k' c2 ar;have:u2=u:=by have:=bo.ref;simp_all
    subst this;rw[bo.im]at hi;cases hi
   .show mu H0.objs.get ((i,H'.objs)::S.es) (Z.es.length+1) u=_;rw[<-ad,FN]
   .show mu H0.objs.get ((i,H'.objs)::S.es) m u=_;have hm:m<=Z.es.length+1:=hm;rcases rK m (Z.es.length+1)with ao|ao
    .rw[De (by omega)];have q:iH (d,k) m (Z.es.length+1) ((i,δ)::Z.es)=true:=q;obtain⟨e1,e2⟩:=ac6 (by omega) q;rw[h.rows s0 g hl hu e1];exact h.box d k u hl hu m (by omega) e2
    have:m=S.es.length+1:=by omega
    rw[this,FN]
   rcases h.reads r hr with k|⟨b,m,k1,k2,k3⟩
   .exact .inl k
   refine .inr ⟨b,m,k1,Nat.le_succ_of_le k2,?_⟩;cases b;.show dP P ng r.2.1 (mu H0.objs.get ((i,H'.objs)::S.es) m) r.2.2.1=_;grind[De]
   rename_i p;obtain⟨u,row,q1,q2,q3,q4,q5⟩:=k3;have ac:iH p m (Z.es.length+1) ((i,δ)::Z.es)=true->H'.objs.get u=row:=λ q=>by obtain⟨e1,e2⟩:=ac6 k2 q;rw[h.rows s0 g q1 q2 e1];exact q5 e2
   refine⟨u,row,q1,q2,q3,λ k M q=>?_,ac⟩;show mu H0.objs.get ((i,H'.objs)::S.es) k u=row;have M:k<=Z.es.length+1:=M;rcases rK k (Z.es.length+1)with ag|ag
   .rw[De (by omega)];grind[iH]
   have:k=Z.es.length+1:=by omega
   subst this;rw[<-ad,FN];exact ac q
  cases hz
theorem SB{objs0:Tr Row}{y:Tr aa}{v:aa}{ok:Nat->Bool}:∀{es:List (Nat×Tr Row)} {zs:List (Nat×fq)} {up:Option Nat},es.map (·.1)=zs.map (·.1)->tc bef j ok zs up=true->
 (∀k,k<=es.length->ok k=true->dP P ng y (mu objs0.get es k) o=some v)->qx P ng bef objs0 j y o v es up=true
 |[],[],up,_,h,J=>by
  show((match(generalizing:=false) up with|some e=>tb (bef j) e|none=>false)||qT P ng y objs0.get o v)=true;simp only[tc,nZ]at h⊢;rcases h with h|h
  .exact .inl h
  right;have:=J 0 (be _) h;have this:dP P ng y objs0.get o=some v:=this;grind[qT,Ob]
 |e::es,z::zs,up,q,h,J=>by
  simp only[fL,rG]at q;have A:es.length=zs.length:=by have:=dc List.length q.2;simpa using this
  show(((match(generalizing:=false) up with|some e'=>tb (bef j) e'|none=>false)||tb (bef e.1) j||qT P ng y e.2.get o v)&&qx P ng bef objs0 j y o v es (some e.1))=true;simp only[tc,aR,nZ]at h⊢;refine⟨?_,?_⟩;.grind[FN,qT,Ob]
  refine SB (ok:=ok) q.2 ?_ λ k M K=>?_
  .simp_all
  grind[De]
 |[],_::_,_,q,_,_=>by simp at q
 |_::_,[],_,q,_,_=>by simp at q
def PI(M:mz ng gl Z7 acall){n:Nat}{aK:aq}(s0:cn G0 aK H0)(N:aK.up.length=D):∀{l:List Oper} {i:Nat} {S:eX} {Z:cR} {G:Gh} {T:VT} {T':Tr aa} {st:aq} {H:ah} {Z2:cR} {T2:VT} {bU:aq},Ok ng gl D G T T' st H->kg P ng D G0 aK H0 S Z G st H->
 pB P pf gl Z7 n Z8 bef l i Z T st=some (Z2,T2,bU)->
 (st.w=true->bU.w=true)/\∃S2 q A G2,gF P ng acall n Z8 bef l i S T' H=some (S2,q,A)/\Ok ng gl D G2 T2 q bU A/\cw D G st H G2 bU A (TW D bU.w) tZ/\kg P ng D G0 aK H0 S2 Z2 G2 bU A
 |[],i,S,Z,G,T,T',st,H,Z2,T2,bU,h,hd,e=>by cases e;exact⟨id,S,T',H,G,rfl,h,cw.refl _ _ _ _ _ _,hd⟩
 |o::l,i,S,Z,G,T,T',st,H,Z2,T2,bU,h,hd,e=>by
  simp only[pB]at e;split at e
  .rename_i J hw;split at e
   .rename_i r hr;split at e
    .rename_i Z' hz;obtain⟨a,H1,G1,h1,h2,h3,h7,h8,h9⟩:=LA (n:=n) M h hr;obtain⟨w1,w2⟩:=Ps hr;obtain⟨S',hS,K⟩:=hd.step s0 N h.bN h.gC h3 h7 h8 h9 hz;obtain⟨w3,S2,q,A,G2,h4,h5,h6,Y⟩:=PI M s0 N h2 K e;refine⟨λ y=>w3 (w1 y),S2,q,A,G2,?_,h5,h3.trans h6 (λ d k y=>?_) (λ _ _ y=>y) (λ _ _=>trivial) (λ _ _=>trivial),Y⟩;.show Bool.rec (motive:=λ _=>Option (eX×Tr aa×ah)) _ (Option.rec (motive:=λ _=>Option (eX×Tr aa×ah)) none (λ r=>Option.rec (motive:=λ _=>Option (eX×Tr aa×ah)) none (λ S'=>gF P ng acall n Z8 bef l (i+1) S' (cG n T' o.dst r.1) r.2) (ib (bef i) i T' o.op S r)) (bK P ng acall T' H o.op)) (bJ Z8 T' o)=_;rw[BW h.tmp J,hw,h1];simp_all
     rcases w2 d k y with e|e
     .exact .inl (e.trans h.gC)
     exact .inr (w3 e)
    cases e
   cases e
  .rename_i J hw;obtain⟨G1,h2,h3⟩:=KR (n:=n) (dst:=o.dst) h;have K:kg P ng D G0 aK H0 S Z G1 st H:={hd with iR:=hd.iR.trans h3 (λ _ _ _=>trivial) (λ _ _ _=>trivial) (λ _ J=>J) (λ _ J=>J.elim)};obtain⟨w3,S2,q,A,G2,h4,h5,h6,Y⟩:=PI M s0 N h2 K e;refine⟨w3,S2,q,A,G2,?_,h5,h3.trans h6 (λ d k y=>y.elim) (λ _ _ y=>y) (λ _ _=>trivial) (λ _ _=>trivial),Y⟩;show Bool.rec (motive:=λ _=>Option (eX×Tr aa×ah)) (gF P ng acall n Z8 bef l (i+1) S (cG n T' o.dst (.tuple [])) H) _ (bJ Z8 T' o)=_;rw[BW h.tmp J,hw];exact h4
  cases e
def anv:mz ng gl kF acall:=⟨λ _ _ _ _ _ _ h=>(by cases h),λ _ _ _ _ _ _ h=>(by cases h)⟩
theorem anT(o:Op):lh false o=[]:=by unfold lh;split<;>rfl
def YW(d:Option Tmp):um [] d=false:=by cases d<;>rfl
theorem axk{o:Oper}(h:eO P xl gl Z7 T st o=some r)(A:iV r.e<=1):r.st=st/\r.src=[]:=by
 unfold eO at h;have y:um xl.take o.dst=false:=YW _;rw[y]at h;split at h;.grind[anT]
 .split at h
  .split at h
   .split at h;.rename_i v b st' q;cases h;refine⟨?_,rfl⟩;unfold vk at q;grind
    cases h
   cases h
  .grind
  cases h
 .grind[iV]
 unfold vq at h;split at h;.grind[iV]
 .grind[wJ,iV]
 .grind[iV]
 cases h
structure pO (ng:Nat) (gl:aM) (D:Nat) (G0:Gh) (aK:aq) (H0:ah) (Gu:Gh) (U:VT) (T':Tr aa):Prop where
 ok:Ok ng gl D Gu U T' aK H0
 im:∀u r,Gu.I u=some r->G0.I u=some r
 mh:∀d k,Gu.ρ d k=G0.ρ d k\/(bE aK d k).isSome=false
def pO.next{aK:aq}{A:VT}{q:Tr aa}(h:pO ng gl D G0 aK H0 Gu U T'){y:Gh}(ok:Ok ng gl D y A q aK H0)(g:cw D Gu aK H0 y aK H0 (λ _ _=>False) (λ _=>False)):pO ng gl D G0 aK H0 y A q where
 ok:=ok
 im:=λ u r e=>h.im u r (g.nJ u r e (ok.bN.lt e).1)
 mh:=λ d k=>by
  rcases Nat.lt_trichotomy d D with e|e|e
  .rw[g.mh d k e];exact h.mh d k
  .subst e;rw[g.nq k id];exact h.mh _ k
  right;cases J:bE aK d k;.rfl
  rename_i c;have:=NV J;have:=h.ok.gC;omega
theorem pO.zU{aK:aq}(h:pO ng gl D G0 aK H0 Gu U T')(n:Nat)(dst:Option Tmp)(a:aa):∃q,pO ng gl D G0 aK H0 q (da n U dst (.aL [])) (cG n T' dst a):=by
 obtain⟨q,A,y⟩:=stepT (n:=n) (dst:=dst) (src:=[]) (v:=.aL []) (a:=a) h.ok ⟨by simp[aA],λ _ _=>none,λ j es sz c M K=>by grind[ae.cells]⟩
 exact⟨q,h.next A {y with rows:=λ u J=>.inl rfl,nq:=λ k _=>y.nq k id}⟩
def pO.skip{aK:aq}(h:pO ng gl D G0 aK H0 Gu U T')(n:Nat)(dst:Option Tmp):∃q,pO ng gl D G0 aK H0 q (da n U dst .un) (cG n T' dst (.tuple [])):=by obtain⟨q,A,y⟩:=KR (n:=n) (dst:=dst) h.ok;exact⟨q,h.next A {y with rows:=λ u J=>.inl rfl,nq:=λ k _=>y.nq k id}⟩
def kg.free{aK:aq}(h:kg P ng D G0 aK H0 S Z G st H){b:Option (Nat×Nat)}
 (g:cw D G st H G' st' H (ja (Is (.read b))) (D6 (.read b) dst)) (N:∀A:Nat->Option Row,(∀u w,G0.I u=some w->A u=some w)->dP P ng T' A o=some a):
 kg P ng D G0 aK H0 (sW i T' o S a) Z G' st' H:=by
 refine⟨h.cA,h.idx,h.iR.trans g (λ _ _ _=>trivial) (λ _ _ _=>trivial) (λ _ y=>y) (λ _ y=>y.elim),h.M8,h.D0,h.now,h.box,λ r q=>?_⟩;have q:r∈(i,T',o,a)::S.rs:=q;rcases ck.1 q with rfl|q
 .exact .inl N
 .rcases h.reads r q with k|⟨b,m,M,K,J⟩
  .exact .inl k
  exact .inr ⟨b,m,M,K,J⟩
theorem avB{acall:aW}{n:Nat}{aK:aq}(s0:cn G0 aK H0)(hd:kg P ng D G0 aK H0 S Z G st H)(ab:Ok ng gl D G T T' st H)(J:pO ng gl D G0 aK H0 Gu U T'){o:Oper}(A:dj o.op=iV e)(K:bK P ng acall T' H o.op=some (a,H')){q:Option (ae×Bool)}(y:mg Z.es e (eO P xl gl kF U aK o)=q):
 (∃Gv,pO ng gl D G0 aK H0 Gv (da n U o.dst (zt q)) (cG n T' o.dst a))/\(∀v,q=some (v,true)->(∃b,e=.read b)/\∀h:Nat->Option Row,(∀u w,G0.I u=some w->h u=some w)->dP P ng T' h o.op=some a):=by
 cases hs:eO P xl gl kF U aK o
 .rw[hs]at y;have:q=none:=by rw[<-y];cases e<;>rfl
  subst this;exact⟨J.zU n o.dst a,λ v e=>by cases e⟩
 .rename_i r;rw[hs]at y;obtain⟨a0,H1,G1,h1,h2,h3,h4,h5,h6⟩:=LA (n:=n) (acall:=acall) anv J.ok hs
  have go:iV r.e<=1->a0=a->∃Gv,pO ng gl D G0 aK H0 Gv (da n U o.dst r.v) (cG n T' o.dst a):=by
   intro hc ea;subst ea;obtain⟨e1,e2⟩:=axk hs hc;have e3:=h6 hc;subst e3;rw[e1,e2]at h2;rw[e1]at h3;refine⟨G1,J.next h2 {h3 with rows:=λ u J=>.inl rfl,nq:=λ k _=>h3.nq k ?_}⟩;cases ad:r.e with
   |pure=>exact id
   |read b=>exact id
   |new b=>grind[iV]
   |eP d=>grind[iV]
  obtain⟨rv,rs,ac,re⟩:=r
  have zU:q=none->(∃Gv,pO ng gl D G0 aK H0 Gv (da n U o.dst (zt q)) (cG n T' o.dst a))/\(∀v,q=some (v,true)->(∃b,e=.read b)/\∀h:Nat->Option Row,(∀u w,G0.I u=some w->h u=some w)->dP P ng T' h o.op=some a):=by
   rintro rfl
   exact⟨J.zU n o.dst a,λ v e=>by cases e⟩
  cases e with
  |pure=>
   cases re with
   |pure=>
    simp only[mg]at y;subst y;have A:dj o.op=0:=A
    have:a0=a:=by
     simp only[bK,A]at h1 K;cases hp:kP P ng T' o.op;.rw[hp]at K;cases K
     rename_i x;grind[fZ]
    exact⟨go (by simp[iV]) this,λ v e=>by cases e⟩
   |_=>exact zU y.symm
  |read b=>
   cases re with
   |read b0=>
    have A:dj o.op=1:=A
    have r1:dP P ng T' H.objs.get o.op=some a:=by
     simp only[bK,A]at K;cases hp:dP P ng T' H.objs.get o.op;.rw[hp]at K;cases K
     rename_i x;grind[fZ]
    cases b0
    .simp only[mg]at y;subst y;have h5:∀h:Nat->Option Row,(∀u r,Gu.I u=some r->h u=some r)->dP P ng T' h o.op=some a0:=h5;have Y:∀h:Nat->Option Row,(∀u r,G0.I u=some r->h u=some r)->dP P ng T' h o.op=some a0:=λ h hg=>h5 h λ u r e=>hg u r (J.im u r e)
     have:a0=a:=by
      have:=Y H.objs.get λ u r e=>ab.bN.fJ u r (hd.iR.im u r e)
      simp_all
     exact⟨go (by simp[iV]) this,λ v _=>⟨⟨b,rfl⟩,this▸Y⟩⟩
    rename_i p;simp only[mg]at y;cases M:iH p 0 Z.es.length Z.es;.grind
    rw[M]at y;subst y;obtain⟨u,k1,k2,k3⟩:∃u,Gu.ρ p.1 p.2=some u/\(bE aK p.1 p.2).isSome=true/\∀h:Nat->Option Row,h u=H0.objs.get u->dP P ng T' h o.op=some a0:=h5
    have N:G0.ρ p.1 p.2=some u:=by
     rcases J.mh p.1 p.2 with e|e
     .grind
     simp_all
    have hb:=hd.box p.1 p.2 u k2 N 0 (iB _) M
    have h0:mu H0.objs.get S.es 0=H0.objs.get:=by
     have:∀es:List (Nat×Tr Row),mu H0.objs.get es 0=H0.objs.get:=by
      intro es;induction es with
      |nil=>rfl
      |cons x es ih=>grind[De]
     exact this _
    rw[h0]at hb;have:a0=a:=by simp_all
    exact⟨go (by simp[iV]) this,λ v e=>by cases e⟩
   |_=>exact zU y.symm
  |new b=>exact zU (by rw[<-y];rfl)
  |eP d=>exact zU (by rw[<-y];rfl)
def PA(af:mz ng gl Z7 acall){n:Nat}{aK:aq}(s0:cn G0 aK H0)(K:aK.up.length=D):∀{l:List Oper} {i:Nat} {S:eX} {Z:cR} {G Gu:Gh} {T U:VT} {T':Tr aa} {st:aq} {H:ah} {Z2:cR} {T2:VT} {bU:aq},Ok ng gl D G T T' st H->kg P ng D G0 aK H0 S Z G st H->pO ng gl D G0 aK H0 Gu U T'->
 qd P pf gl Z7 n Z8 bef aK l i Z T U st=some (Z2,T2,bU)->
 (st.w=true->bU.w=true)/\∃S2 A Y G2,gF P ng acall n Z8 bef l i S T' H=some (S2,A,Y)/\Ok ng gl D G2 T2 A bU Y/\cw D G st H G2 bU Y (TW D bU.w) tZ/\kg P ng D G0 aK H0 S2 Z2 G2 bU Y
 |[],i,S,Z,G,Gu,T,U,T',st,H,Z2,T2,bU,h,N,hu,e=>by cases e;exact⟨id,S,T',H,G,rfl,h,cw.refl _ _ _ _ _ _,N⟩
 |o::l,i,S,Z,G,Gu,T,U,T',st,H,Z2,T2,bU,h,N,hu,e=>by
  simp only[qd]at e;split at e
  .rename_i hk hw;split at e
   .rename_i r hr;split at e
    .rename_i Z' M;obtain⟨a,H1,G1,h1,h2,h3,h7,h8,h9⟩:=LA (n:=n) af h hr;obtain⟨w1,w2⟩:=Ps hr;obtain⟨⟨Gv,ab⟩,y⟩:=avB (n:=n) s0 N h hu h7 h1 rfl
     have ac:∃S',ib (bef i) i T' o.op S (a,H1)=some S'/\kg P ng D G0 aK H0 S' Z' G1 r.st H1:=by
      generalize hq:mg Z.es r.e (eO P xl gl kF U aK o)=q at M y
      match q,M,y with
      |none,M,_=>exact N.step s0 K h.bN h.gC h3 h7 h8 h9 M
      |some (v,false),M,_=>exact N.step s0 K h.bN h.gC h3 h7 h8 h9 M
      |some (v,true),M,y=>
       cases M;obtain⟨⟨b,hb⟩,hf⟩:=y v rfl;rw[hb]at h3 h7 h9;have hH:=h9 (by simp[iV]);subst hH;exact⟨sW i T' o.op S a,by simp only[ib,h7,iV],N.free h3 hf⟩
     obtain⟨S',hS,ad⟩:=ac;obtain⟨w3,S2,A,Y,G2,h4,h5,h6,ag⟩:=PA af s0 K h2 ad ab e;refine⟨λ J=>w3 (w1 J),S2,A,Y,G2,?_,h5,h3.trans h6 (λ d k J=>?_) (λ _ _ J=>J) (λ _ _=>trivial) (λ _ _=>trivial),ag⟩;.show Bool.rec (motive:=λ _=>Option (eX×Tr aa×ah)) _ (Option.rec (motive:=λ _=>Option (eX×Tr aa×ah)) none (λ r=>Option.rec (motive:=λ _=>Option (eX×Tr aa×ah)) none (λ S'=>gF P ng acall n Z8 bef l (i+1) S' (cG n T' o.dst r.1) r.2) (ib (bef i) i T' o.op S r)) (bK P ng acall T' H o.op)) (bJ Z8 T' o)=_;rw[BW h.tmp hk,hw,h1];simp_all
     rcases w2 d k J with e|e
     .exact .inl (e.trans h.gC)
     exact .inr (w3 e)
    cases e
   cases e
  .rename_i hk hw;obtain⟨G1,h2,h3⟩:=KR (n:=n) (dst:=o.dst) h;obtain⟨Gv,ab⟩:=hu.skip n o.dst;have ad:kg P ng D G0 aK H0 S Z G1 st H:={N with iR:=N.iR.trans h3 (λ _ _ _=>trivial) (λ _ _ _=>trivial) (λ _ hk=>hk) (λ _ hk=>hk.elim)};obtain⟨w3,S2,A,Y,G2,h4,h5,h6,ag⟩:=PA af s0 K h2 ad ab e;refine⟨w3,S2,A,Y,G2,?_,h5,h3.trans h6 (λ d k J=>J.elim) (λ _ _ J=>J) (λ _ _=>trivial) (λ _ _=>trivial),ag⟩;show Bool.rec (motive:=λ _=>Option (eX×Tr aa×ah)) (gF P ng acall n Z8 bef l (i+1) S (cG n T' o.dst (.tuple [])) H) _ (bJ Z8 T' o)=_;rw[BW h.tmp hk,hw];exact h4
  cases e
theorem as4(ab:mz ng gl Z7 acall){Z8:Array Oper}{J:Bool}(h:Ok ng gl D G T T' st H){N:VT}{bU:aq}(e:ym P pf gl Z7 n Z8 T st J=some (N,bU)):
 (st.w=true->bU.w=true)/\∃q y K,jn P ng acall n Z8 T' H J=some (q,y)/\Ok ng gl D K N q bU y/\cw D G st H K bU y (TW D bU.w) tZ:=by
 unfold ym at e;cases J;.exact Pb ab h e
 .simp only at e
  have ac:∀{x:Option (cR×VT×aq)},(∀{Z2:cR} {N:VT} {bU:aq},x=some (Z2,N,bU)->(st.w=true->bU.w=true)/\∃M q y K,gF P ng acall n Z8.toList (cO Z8) Z8.toList 0 ⟨[],[],[]⟩ T' H=some (M,q,y)/\Ok ng gl D K N q bU y/\cw D G st H K bU y (TW D bU.w) tZ/\kg P ng D G st H M Z2 K bU y)->
   qY Z8 x=some (N,bU)->(st.w=true->bU.w=true)/\∃q y K,jn P ng acall n Z8 T' H true=some (q,y)/\Ok ng gl D K N q bU y/\cw D G st H K bU y (TW D bU.w) tZ:=by
   intro x hx e;unfold qY at e;split at e
   .rename_i Z T3 st3;split at e
    .rename_i ag;cases e;obtain⟨w,M,q,y,K,h4,h5,h6,A⟩:=hx rfl;refine⟨w,q,y,K,?_,h5,h6⟩;show nL P ng (cO Z8) H.objs (gF P ng acall n Z8.toList (cO Z8) Z8.toList 0 ⟨[],[],[]⟩ T' H)=_;rw[h4];simp only[nL]
     have ad:vd P ng (cO Z8) H.objs M.es M.rs=true:=by
      have:∀rs:List (Nat×Tr aa×Op×aa),(∀r∈rs,Jq P ng G st H y M Z r)->vd P ng (cO Z8) H.objs M.es rs=true:=by
       intro rs;induction rs with
       |nil=>intro _;rfl
       |cons r rs ih=>
        intro hr;show(qx P ng (cO Z8) H.objs r.1 r.2.1 r.2.2.1 r.2.2.2 M.es none&&vd P ng (cO Z8) H.objs M.es rs)=true;rw[ih λ x hx=>hr x (cz _ hx),Vs];rcases hr r (cS ..)with k|⟨b,m,k1,k2,k3⟩
        ·
         have hv:∀(zs:List (Nat×fq)) (up:Option Nat),tc (cO Z8) r.1 (λ _=>true) zs up=true:=by
          intro zs;induction zs with
          |nil=>intro up;simp[tc]
          |cons z zs af=>intro up;simp[tc,af]
         exact SB A.idx (hv _ _) λ k' Y _=>k _ (A.D0 k' (by rw[<-A.len];exact Y))
        have hv:=ij.1 ag _ k1;refine SB A.idx hv λ k' Y ai=>?_
        cases b;.grind[yy]
        rename_i p;obtain⟨u,row,q1,q2,q3,q4,q5⟩:=k3;exact q3 _ (q4 k' (by rw[<-A.len];exact Y) ai)
      exact this M.rs A.reads
     rw[ad]
    cases e
   .cases e
  cases hA:qY Z8 (pB P pf gl Z7 n Z8.toList (cO Z8) Z8.toList 0 ⟨[],[],false,false,[]⟩ T st);.rw[hA]at e;have e:qY Z8 (qd P pf gl Z7 n Z8.toList (cO Z8) st Z8.toList 0 ⟨[],[],false,false,[]⟩ T T st)=some (N,bU):=e;exact ac (λ he=>PA ab h.bN h.gC h (kg.start h.bN) ⟨h,λ _ _ e=>e,λ _ _=>.inl rfl⟩ he) e
  rename_i r;rw[hA]at e;have e:some r=some (N,bU):=e;exact ac (λ he=>PI ab h.bN h.gC h (kg.start h.bN) he) (hA.trans e)
end
section
variable{P:Program}{ng:Nat}{gl:aM}{G:Gh}{D:Nat}{T:VT}{T':Tr aa}{st:aq}{H:ah}
def cn.sub(h:cn G st H)(e:∀d k cs,bE st' d k=some cs->bE st d k=some cs):cn G st' H where
 gd:=h.gd
 fJ:=h.fJ
 box:=λ d k cs g=>h.box d k cs (e d k cs g)
 inj:=λ d k J y cs q u g A=>h.inj d k J y cs q u (e _ _ _ g) (e _ _ _ A)
 aC:=h.aC
 lq:=h.lq
theorem acE(h:Ok ng gl D G T T' st H)(l:List (Nat×List Nat×List Nat))(id:Nat):Ok ng gl D G (tm l id T st).1 T' (tm l id T st).2 H/\cw D G st H G (tm l id T st).2 H (ja .clean) qq/\(tm l id T st).2.w=st.w:=by
 unfold tm;split
 .rename_i a b y;have q:∀d k cs,bE {st with cur:=lp b st.cur} d k=some cs->bE st d k=some cs:=by grind[bE,Io]
  refine⟨⟨h.bN.sub q,λ i v e=>h.tmp i v (Io _ _ _ _ e),h.gC,h.iA⟩,?_,rfl⟩;refine{cw.refl D G st H (ja .clean) qq with live:=λ d k u e e' _=>⟨?_,e'⟩,uk:=rfl};grind[Option.isSome_iff_exists]
 grind[cw.refl]
theorem OH(ac:mz ng gl Z7 acall):∀(m:Nat) (c:Code) {G:Gh} {T:VT} {T':Tr aa} {st:aq} {H:ah} {e:eE} {T2:VT} {bU:aq},Ok ng gl D G T T' st H->eN P pf gl Z7 n m c T st=some (e,T2,bU)->
 (st.w=true->bU.w=true)/\∃K H2 G2,aZ P ng acall n m c T' H=some (e,K,H2)/\Ok ng gl D G2 T2 K bU H2/\cw D G st H G2 bU H2 (TW D bU.w) tZ:=by
 intro m;induction m with
 |zero=>intro c G T T' st H e T2 bU _ h;cases h
 |succ m ih=>
  intro c G T T' st H e T2 bU q h;have tr:∀{N G2 G3:Gh} {s1 s2 s3:aq} {M H2 H3:ah},(s2.w=true->s3.w=true)->cw D N s1 M G2 s2 H2 (TW D s2.w) tZ->cw D G2 s2 H2 G3 s3 H3 (TW D s3.w) tZ->cw D N s1 M G3 s3 H3 (TW D s3.w) tZ:=λ hw a b=>a.trans b (TW.mono hw) (λ _ _ J=>J) (λ _ _=>trivial) (λ _ _=>trivial)
  cases c with
  |skip=>cases h;exact⟨id,T',H,G,rfl,q,cw.refl _ _ _ _ _ _⟩
  |exit id=>cases h;exact⟨λ J=>J,T',H,G,rfl,q,cw.refl _ _ _ _ _ _⟩
  |ret=>cases h;exact⟨λ J=>J,T',H,G,rfl,q,cw.refl _ _ _ _ _ _⟩
  |region id Z8 d=>
   simp only[eN]at h;split at h
   .rename_i T1 lf hr;simp only[lz,Ei]at h;obtain⟨rfl,h⟩:=h;have e1:T2=(tm pf.out id T1 lf).1:=by rw[h]
    have e2:bU=(tm pf.out id T1 lf).2:=by rw[h]
    subst e1 e2;clear h;obtain⟨w,K,H2,G2,h4,h5,h6⟩:=as4 ac q hr;obtain⟨t1,t2,t3⟩:=acE h5 pf.out id;refine⟨λ J=>by rw[t3];exact w J,K,H2,G2,?_,t1,h6.trans t2 (λ d k J=>by rw[t3];exact J) (λ _ _ J=>J.elim) (λ _ _=>trivial) (λ _ _=>trivial)⟩;show px (jn P ng acall n Z8 T' H d)=_;rw[h4];rfl
   cases h
  |seq a b=>
   simp only[eN]at h;split at h;.rename_i T1 lf ha;obtain⟨Y,A,M,N,a1,a2,a3⟩:=ih a q ha;obtain⟨w2,K,H2,G2,b1,b2,b3⟩:=ih b a2 h;refine⟨λ J=>w2 (Y J),K,H2,G2,?_,b2,tr w2 a3 b3⟩;show iL (aZ P ng acall n m b) (aZ P ng acall n m a T' H)=_;rw[a1];exact b1
   rename_i ab;obtain⟨Y,A,M,N,a1,a2,a3⟩:=ih a q h;refine⟨Y,A,M,N,?_,a2,a3⟩;show iL (aZ P ng acall n m b) (aZ P ng acall n m a T' H)=_;rw[a1];cases e with
   |normal=>exact(ab T2 bU h).elim
   |exit id=>rfl
   |ret=>rfl
  |cond x a b=>
   simp only[eN]at h;split at h;.rename_i hx;obtain⟨y,y1,y2,_⟩:=gq q.tmp q.iA hx;simp only[aA]at y2;obtain⟨Y,A,M,N,a1,a2,a3⟩:=ih a q h;refine⟨Y,A,M,N,?_,a2,a3⟩;show mq (aZ P ng acall n m a T' H) (aZ P ng acall n m b T' H) (aU ng T' x)=_;rw[y1,y2.1];exact a1
   .rename_i hx;obtain⟨y,y1,y2,_⟩:=gq q.tmp q.iA hx;simp only[aA]at y2;obtain⟨Y,A,M,N,a1,a2,a3⟩:=ih b q h;refine⟨Y,A,M,N,?_,a2,a3⟩;show mq (aZ P ng acall n m a T' H) (aZ P ng acall n m b T' H) (aU ng T' x)=_;rw[y1,y2.1];exact a1
   cases h
  |block id a=>
   simp only[eN]at h;split at h
   .rename_i j T1 lf ha;obtain⟨Y,A,M,N,a1,a2,a3⟩:=ih a q ha;split at h;.rename_i hj;cases h;refine⟨Y,A,M,N,?_,a2,a3⟩;show kR id (aZ P ng acall n m a T' H)=_;grind[kR,Nat.beq_refl]
    rename_i hj;cases h;refine⟨Y,A,M,N,?_,a2,a3⟩;show kR id (aZ P ng acall n m a T' H)=_;grind[kR,Nat.eq_of_beq_eq_true]
   rename_i ab;obtain⟨Y,A,M,N,a1,a2,a3⟩:=ih a q h;refine⟨Y,A,M,N,?_,a2,a3⟩;show kR id (aZ P ng acall n m a T' H)=_;rw[a1];cases e with
   |exit j=>exact(ab j T2 bU h).elim
   |normal=>rfl
   |ret=>rfl
  |loop a=>
   simp only[eN]at h;obtain⟨t1,t2,t3⟩:=acE q pf.head (Dp a);split at h;.rename_i T1 lf ha;obtain⟨Y,A,M,N,a1,a2,a3⟩:=ih a t1 ha;obtain⟨w2,K,H2,G2,b1,b2,b3⟩:=ih (.loop a) a2 h;refine⟨λ J=>w2 (Y (by rw[t3];exact J)),K,H2,G2,?_,b2,t2.trans (tr w2 a3 b3) (λ _ _ J=>J.elim) (λ _ _ J=>J) (λ _ _=>trivial) (λ _ _=>trivial)⟩;show iL (aZ P ng acall n m (.loop a)) (aZ P ng acall n m a T' H)=_;rw[a1];exact b1
   rename_i ab;obtain⟨Y,A,M,N,a1,a2,a3⟩:=ih a t1 h;refine⟨λ J=>Y (by rw[t3];exact J),A,M,N,?_,a2,t2.trans a3 (λ _ _ J=>J.elim) (λ _ _ J=>J) (λ _ _=>trivial) (λ _ _=>trivial)⟩;show iL (aZ P ng acall n m (.loop a)) (aZ P ng acall n m a T' H)=_;rw[a1];cases e with
   |normal=>exact(ab T2 bU h).elim
   |exit id=>rfl
   |ret=>rfl
  |rangeFunc _ _ _ _=>cases h
  |scope _=>cases h
  |label _=>cases h
  |goto _=>cases h
  |refuse _=>cases h
end
section
variable{abase:aW}
variable{P:Program}{ng:Nat}{gl:aM}{G:Gh}{D:Nat}{T:VT}{T':Tr aa}{st:aq}{H:ah}{ρ:Bx}{I:Im}
theorem acy:∀(vs:List aa) (i:Nat) (T:Tr aa) (j:Nat),aw (fH vs i T) j=if i<=j/\j<i+vs.length then(vs[j-i]?).getD (.tuple [])else aw T j
 |[],i,T,j=>by grind[fH]
 |v::vs,i,T,j=>by simp only[fH];rw[acy vs (i+1)];grind[yV,Tr.fT]
theorem agF:∀(i:Nat) (l:List ae) (j:Nat) (v:ae),lk (lM i l) j=some v->i<=j/\l[j-i]? =some v
 |_,[],_,_,h=>by cases h
 |i,w::l,j,v,h=>by
  simp only[lM,zo]at h;split at h;.rename_i e;cases h;subst e;simp
  rename_i e;obtain⟨y,q⟩:=agF (i+1) l j v h;grind
def akl(h:bD v=v):nN v.cells Z9:=by rw[<-h];exact pw
theorem Xd(q:bB (cut D G.ρ) G.I args Z9)(J:args.map bD=args):nF G D (lM 0 args) (fH Z9 0 .nil):=by intro i v e;obtain⟨_,h⟩:=agF 0 args i v e;rw[Vl]at h;obtain⟨a,h3,A⟩:=Fm q h;have y:=(mR.1 h3).1;rw[acy,ao (by omega),Vl,h3];refine⟨wW (RQ (jl _) _) (cu.refl _) _ _ A,(akl ?_).own _ _⟩;grind
theorem ar9(h:cn G st H){x:ae}{ax:aa}{b:Option (Nat×Nat)}(K:aA (cut (D+1) G.ρ) G.I x ax)(q:vk P false st t x=some (v,b,st')):∃a,de P H.objs.get t ax=some a/\kO (cut (D+1) G.ρ) G.I v a:=by
 unfold vk at q;split at q
 .rename_i cs off;split at q;.rename_i w m N;cases q;simp only[aA]at K;obtain⟨u,o,r,rfl,h2,h3,h4⟩:=K;obtain⟨a,J,M,_⟩:=Fq (ρ:=cut (D+1) G.ρ) (I:=G.I) N (h.fJ u r h2) h3 (B0 h4) (KT h4).2.2;exact⟨a,J,nu M,pw⟩
  cases q
 .rename_i d k off;split at q
  .rename_i cs ab;split at q
   .rename_i w m N;cases q;simp only[aA]at K;obtain⟨u,hu,rfl⟩:=K;have ad:d<D+1:=by grind[cut]
    have ac:G.ρ d k=some u:=GC _ _ _ _ _ hu;obtain⟨u2,r,A⟩:=h.box d k cs ab;have:u2=u:=by have:=A.ref;grind
    subst this;have y:=pz A.cells;have Y:bB (cut (d+1) G.ρ) G.I cs ((r.cells.drop 0).take cs.length):=by rw[cM,<-y,aiw];exact A.cells
    obtain⟨a,J,M,_⟩:=Fq N A.row (by omega) Y A.cell;simp only[iX]at J;exact⟨a,J,nu (wW (RQ (by omega) _) (cu.refl _) _ _ M),pw⟩
   cases q
  cases q
 cases q
theorem GZ(h:cn G st H)(y:nF G D T T'):∀{rs:List ResultVar} {l:List ae},tV P st T rs=some l->∃Z9,jL P H.objs.get T' rs=some Z9/\bB (cut (D+1) G.ρ) G.I l Z9/\
 ∀v a,l=[v]->Z9=[a]->nN v.cells a.cells\/∃t,mw G (.tmp D t) v.cells a.cells
 |[],l,e=>by cases e;exact⟨[],rfl,jI.2 rfl,λ _ _ e=>by cases e⟩
 |.tmp t::rs,l,e=>by
  simp only[tV]at e;split at e;.rename_i l' q;cases e;obtain⟨Z9,K,J,_⟩:=GZ h y q;grind[Ld,jL,cf]
  cases e
 |.cell a t::rs,l,e=>by
  simp only[tV]at e;split at e;.rename_i v b s l' A q;cases e;obtain⟨Z9,K,J,_⟩:=GZ h y q;obtain⟨h3,_⟩:=Ld y a;obtain⟨c,Y,N,M⟩:=ar9 (P:=P) h h3 A;grind[jL,cf]
  cases e
theorem Ey(h:aA ρ I v a):aA ρ0 I (jw v) a:=by
 cases v with
 |sc b=>simp only[aA,jw]at h⊢;exact h
 |sl es o=>exact h
 |agg cs=>
  simp only[jw];split;.rename_i q;simp only[aA]at h⊢;grind[OY,Jt,KY]
  simp[aA]
 |fn f cs=>
  cases cs;.simp only[aA,jw]at h⊢;exact h
  rename_i c cs;simp[aA,jw]
 |_=>simp[aA,jw]
def Lr{s:Nat->bX}(h:mw G s v.cells a.cells):mw G s (jw v).cells a.cells:=by
 cases v with
 |sc b=>exact h
 |sl es o=>exact h
 |agg cs=>
  simp only[jw];split;.exact W1.own _ _
  exact(iF (by simp) rfl).own _ _
 |fn f cs=>
  cases cs;.exact h
  rename_i c cs;exact(iF (by simp[jw]) rfl).own _ _
 |_=>exact(iF (by simp[jw]) rfl).own _ _
def KS:∀{l:List ae} {Z9:List aa},bB ρ I l Z9->bB ρ0 I (l.map λ v=>bD (jw v)) Z9
 |[],_,h=>h
 |v::l,_,h=>by obtain⟨c,cs,rfl,y,q⟩:=cf.1 h;exact cf.2 ⟨c,cs,rfl,nu (Ey y),KS q⟩
def zb(D t:Nat):bX->Option bX
 |.tmp d i j=>if d=D then(if i=t then some (.tmp D 0 j)else none)else some (.tmp d i j)
 |s=>some s
theorem Z3(Y:mz ng gl Z7 acall){pol:FuncId->eV}{f:FuncId}{S1:List bI}{w dt:Bool}(A:tF P pol gl Z7 m f args S=some (v,S1,w))(hs:args.map bD=args)
 (hv:cn G (dA S) H) (hg:kJ ng gl G) (hr:bB (cut S.length G.ρ) G.I args Z9) (am:∀d k,(bE (dA S) d k).isSome=true->w=true->ja (mZ dt) d k):
 ∃a H' G',fI P ng acall f Z9 H (a,H')/\cn G' (dA S1) H'/\cw S.length G (dA S) H G' (dA S1) H' (ja (mZ dt)) (λ _=>True)/\aA ρ0 G'.I v a/\mw G' (.tmp S.length 0) v.cells a.cells:=by
 unfold tF at A;split at A;.cases A
 .rename_i fn hf;split at A;.cases A
  rename_i c hc;split at A;.cases A
  .rename_i e T2 bU ag ai;split at A
   .rename_i l hl;cases A;have af:Ok ng gl S.length G (lM 0 args) (fH Z9 0 .nil) (dA S) H:=⟨hv,Xd hr hs,rfl,hg⟩;obtain⟨hw,ak,H2,G2,e1,e2,M⟩:=OH Y m c af ai;obtain⟨rs,r1,r2,r3⟩:=GZ (P:=P) e2.bN e2.tmp hl;have ab:Z9.length=args.length:=pz hr;have ad:=e2.gC;have N:∀d k cs,bE (dA bU.up) d k=some cs->bE bU d k=some cs:=by intro d k cs e;rw[yo]at e;unfold bE;rw[aj (by have:=cY e;omega)];exact e
    have al:∀k,bE (dA S) S.length k=none:=by
     intro k;rw[yo];cases e:b7 S S.length k;.rfl
     rename_i cs;have:=cY e;omega
    have iR:∀t,cw S.length G (dA S) H (eG G2 (zb S.length t)) (dA bU.up) H2 (ja (mZ dt)) (λ _=>True):=by
     intro t;refine⟨M.im,M.mh,λ k hk=>(hk trivial).elim,λ d k u a b c=>?_,M.next,λ u hu=>?_,λ f s a b=>?_,ad,M.nJ,λ f s a b=>?_,M.aG⟩;.refine M.live d k u ?_ b c;obtain⟨cs,Y⟩:=pI.1 a;rw[N d k cs Y];rfl
     .rcases M.rows u hu with q|⟨d,k,J,q2,q3⟩
      .exact .inl q
      rcases J with J|J
      .grind
      grind
     .obtain⟨J,q2⟩:=M.sD f s a b;refine⟨?_,q2⟩;show(G2.own f).bind _=some s;rw[J];cases s with
      |tmp d i j=>
       have:d<S.length:=a;grind[zb]
      |box _ _ _=>exact a.elim
      |up s=>rfl
     obtain⟨s',q⟩:=xK a;exact M.qM f s' q b
    have K:fI P ng acall f Z9 H (jJ rs,H2):=by
     refine⟨fn,c,m,e,ak,rs,hf,hc,?_,λ id he=>?_,r1,rfl⟩;.rw[ab];exact e1
     subst he;exact ag id rfl
    have h:∀t,cn (eG G2 (zb S.length t)) (dA bU.up) H2:=λ t=>(e2.bN.sub N).eG λ _ _ _=>rfl
    match l,rs,r2,r3 with
    |[],rs,r2,r3=>
     obtain rfl:=jI.1 r2;exact⟨_,_,_,K,h 0,iR 0,by simp[lD,aA],(iF (by simp[lD]) rfl).own _ _⟩
    |[v],rs,r2,r3=>
     obtain⟨a,ac,rfl,J,q2⟩:=cf.1 r2;obtain rfl:=jI.1 q2;rcases r3 v a rfl rfl with q|⟨t,q⟩
     .exact⟨_,_,_,K,h 0,iR 0,Ey J,Lr (q.own _ _)⟩
     refine⟨_,_,_,K,h t,iR t,Ey J,Lr λ j es sz c x y=>(q j es sz c x y).eG ?_⟩;simp only[zb,jz]
    |v::v2::l,rs,r2,r3=>
     obtain⟨a,ac,rfl,J,q2⟩:=cf.1 r2;obtain⟨a2,ac,rfl,q3,q4⟩:=cf.1 q2;refine⟨_,_,_,K,h 0,iR 0,?_,(iF (by simp[lD]) rfl).own _ _⟩;have:=KS r2;show aA ρ0 _ (.aL _) (.tuple _);simp only[aA];exact .inr ⟨_,rfl,this⟩
   cases A
  cases A
def mE(P:Program)(ng:Nat)(abase:aW):Nat->aW
 |0=>λ _ _ _=>none
 |m+1=>r7 P ng abase (mE P ng abase m)
structure ahJ (ng:Nat) (gl:aM) (bset:FuncId->Bool) (base:eH) (abase:aW):Prop where
 some_:∀f args v,bset f=true->base f args=some v->args.any ae.open=false->args.map bD=args->∀G H Z9,cn G (dA []) H->kJ ng gl G->bB ρ0 G.I args Z9->kr 0 G [] H (abase f Z9 H) v [] false
 none_:∀f Z9 H,bset f=false->abase f Z9 H=none
def kr.base{f:FuncId}(h:kr 0 G [] H (abase f Z9 H) v [] false):kr 0 G [] H (r7 P ng abase acall f Z9 H) v [] false:=by obtain⟨a,H',G',y,q⟩:=h;exact⟨a,H',G',Sd y,q⟩
theorem ZN(ρ:Bx):cut 0 ρ=ρ0:=by funext d k;simp[cut,ρ0]
theorem Ya{pol:FuncId->eV}{bset:FuncId->Bool}{base:eH}(Y:ahJ ng gl bset base abase):∀m,mz ng gl (ji P pol gl bset base m) (mE P ng abase m)
 |0=>⟨λ _ _ _ _ _ _ h=>(by cases h),λ _ _ _ _ _ _ h=>(by cases h)⟩
 |m+1=>by
  have ih:=Ya (pol:=pol) Y m;refine⟨λ f args S v S1 dt h y M=>?_,λ f args S v S1 dt h y M=>?_⟩
  .simp only[ji]at h;split at h
   .rename_i q;rw[y]at h;split at h;.rename_i w hw;cases h;exact⟨rfl,rfl,λ G H Z9 A J N=>(Y.some_ f args v q hw y M G H Z9 A J N).base⟩
    cases h
   rename_i q;unfold xW at h;rw[y]at h;simp only at h;split at h
   .rename_i v' S' w ab;cases h;refine⟨rfl,rfl,λ G H Z9 A J N=>?_⟩;obtain⟨a,H',G',k1,k2,K,k4,k5⟩:=Z3 (dt:=false) ih ab M A J (Z9:=Z9) (by grind[ZN]) (λ d k e=>by rw[EI]at e;cases e);have ac:S'=[]:=by have:=K.uk;simpa[dA]using this
    subst ac;exact⟨a,H',G',IG (Y.none_ f Z9 H q) k1,k2,K,k4,k5⟩
   cases h
  simp only[ji]at h;split at h;.rename_i q;rw[y]at h;cases h
  rename_i q;unfold xW at h;rw[y]at h;intro G H Z9 A J N;obtain⟨a,H',G',k1,k2,K,k4,k5⟩:=Z3 (dt:=dt) ih h M A J N (λ d k _ e=>by rw[e];trivial);exact⟨a,H',G',IG (Y.none_ f Z9 H q) k1,k2,K,k4,k5⟩
end
section
variable{a:List ae}{r:ae×List bI×Bool}
variable{P:Program}{gl:aM}
def rT(L:cI)(calls:Nat->cI):Prop:=∀f a S r,L f a S=some r->∃m,∀h,m<=h->calls h f a S=some r
def atb(D:rT L calls){T:VT}{st:aq}{f:Operand}{args:List Operand}{r:VR}(h:wJ P gl L T st f args=some r):∃m,∀q,m<=q->wJ P gl (calls q) T st f args=some r:=by
 unfold wJ at h⊢;split at h
 .rename_i g cap l M K;split at h
  .rename_i G;split at h;.rename_i v F S d A;obtain⟨m,J⟩:=D _ _ _ _ A;exact⟨m,λ q y=>by simp_all⟩
   cases h
  cases h
 cases h
def aw9(y:rT L calls){T:VT}{st:aq}{o:Op}{r:VR}(h:vq P gl L T st o=some r):∃m,∀q,m<=q->vq P gl (calls q) T st o=some r:=by
 unfold vq at h⊢;split at h;.simp_all
 .exact atb y h
 .simp_all
 cases h
def NZ(y:rT L calls){pf:eV}{T:VT}{st:aq}{o:Oper}{r:VR}(h:eO P pf gl L T st o=some r):∃m,∀q,m<=q->eO P pf gl (calls q) T st o=some r:=by
 unfold eO at h⊢;split at h;.simp_all
 .simp_all
 .simp_all
 exact aw9 y h
theorem P2(y:rT L calls){pf:eV}{n:Nat}:∀{l:List Oper} {T:VT} {st:aq} {r:VT×aq},uT P pf gl L n Z8 l T st=some r->∃m,∀q,m<=q->uT P pf gl (calls q) n Z8 l T st=some r
 |[],T,st,r,h=>⟨0,λ _ _=>h⟩
 |o::l,T,st,r,h=>by
  simp only[uT]at h⊢;split at h
  .rename_i M K;split at h;.rename_i x G;obtain⟨D,Y⟩:=NZ y G;obtain⟨A,N⟩:=P2 y h;refine⟨max D A,λ q J=>?_⟩;grind
   cases h
  .exact P2 y h
  cases h
theorem OJ(y:rT L calls){pf:eV}{n:Nat}:∀{l:List Oper} {i:Nat} {Z:cR} {T:VT} {st:aq} {r:cR×VT×aq},pB P pf gl L n Z8 bef l i Z T st=some r->∃m,∀q,m<=q->pB P pf gl (calls q) n Z8 bef l i Z T st=some r
 |[],i,Z,T,st,r,h=>⟨0,λ _ _=>h⟩
 |o::l,i,Z,T,st,r,h=>by
  simp only[pB]at h⊢;split at h
  .rename_i N M;split at h
   .rename_i x G;split at h;.rename_i Z' K;obtain⟨D,h1⟩:=NZ y G;obtain⟨A,Y⟩:=OJ y h;refine⟨max D A,λ q J=>?_⟩;grind
    cases h
   cases h
  .exact OJ y h
  cases h
theorem Qe(y:rT L calls){pf:eV}{n:Nat}{aK:aq}:∀{l:List Oper} {i:Nat} {Z:cR} {T U:VT} {st:aq} {r:cR×VT×aq},qd P pf gl L n Z8 bef aK l i Z T U st=some r->∃m,∀q,m<=q->qd P pf gl (calls q) n Z8 bef aK l i Z T U st=some r
 |[],i,Z,T,U,st,r,h=>⟨0,λ _ _=>h⟩
 |o::l,i,Z,T,U,st,r,h=>by
  simp only[qd]at h⊢;split at h
  .rename_i N M;split at h
   .rename_i x G;split at h;.rename_i Z' K;obtain⟨D,h1⟩:=NZ y G;obtain⟨A,Y⟩:=Qe y h;refine⟨max D A,λ q J=>?_⟩;grind
    cases h
   cases h
  .exact Qe y h
  cases h
def Qb{Z7:cI}{pf:eV}{n:Nat}{aK:aq}:∀{l:List Oper} {i:Nat} {Z G:cR} {T U:VT} {st:aq} {r y:cR×VT×aq},pB P pf gl Z7 n Z8 bef l i Z T st=some r->qd P pf gl Z7 n Z8 bef aK l i G T U st=some y->r.2=y.2
 |[],i,Z,G,T,U,st,r,y,h,q=>by cases h;cases q;rfl
 |o::l,i,Z,G,T,U,st,r,y,h,q=>by
  simp only[pB]at h;simp only[qd]at q;split at h
  .rename_i D A;simp only[D,A]at q;split at h
   .rename_i x J;simp only[J]at q;split at h
    .split at q;.exact Qb h q
     cases q
    cases h
   cases h
  .rename_i D A;simp only[D,A]at q;exact Qb h q
  cases h
theorem P3{Z8:Array Oper}{x:Option (cR×VT×aq)}{r:VT×aq}(h:qY Z8 x=some r):∃Z,x=some (Z,r):=by unfold qY at h;grind
def as0(K:rT L calls){pf:eV}{n:Nat}{Z8:Array Oper}{T:VT}{st:aq}{d:Bool}{r:VT×aq}(h:ym P pf gl L n Z8 T st d=some r):∃m,∀q,m<=q->ym P pf gl (calls q) n Z8 T st d=some r:=by
 unfold ym at h⊢;cases d;.exact P2 K h
 simp only at h⊢;cases D:qY Z8 (pB P pf gl L n Z8.toList (cO Z8) Z8.toList 0 ⟨[],[],false,false,[]⟩ T st)
 .rw[D]at h;have h:qY Z8 (qd P pf gl L n Z8.toList (cO Z8) st Z8.toList 0 ⟨[],[],false,false,[]⟩ T T st)=some r:=h;obtain⟨Z,A⟩:=P3 h;obtain⟨m,J⟩:=Qe K A;refine⟨m,λ q y=>?_⟩;have M:=J q y;rw[M,<-A,h];cases N:qY Z8 (pB P pf gl (calls q) n Z8.toList (cO Z8) Z8.toList 0 ⟨[],[],false,false,[]⟩ T st);.rfl
  rename_i x;obtain⟨Y,G⟩:=P3 N;have:=Qb G M;exact dc some this
 rename_i x;rw[D]at h;have h:some x=some r:=h;cases h;obtain⟨Z,A⟩:=P3 D;obtain⟨m,J⟩:=OJ K A;exact⟨m,λ q y=>by rw[J q y,<-A,D];rfl⟩
theorem OD(hL:rT L calls){pf:eV}{n:Nat}:∀(k:Nat) (c:Code) (T:VT) (st:aq) (r:bZ),eN P pf gl L n k c T st=some r->∃m,∀G q,m<=G->k<=q->eN P pf gl (calls G) n q c T st=some r:=by
 intro k;induction k with
 |zero=>intro c T st r h;cases h
 |succ k K=>
  intro c T st r h;have J:∀q,k+1<=q->∃j,q=j+1/\k<=j:=λ q D=>⟨q- 1,by omega,by omega⟩
  cases c with
  |skip=>exact⟨0,λ G q _ D=>by obtain⟨j,rfl,hj⟩:=J q D;exact h⟩
  |exit id=>exact⟨0,λ G q _ D=>by obtain⟨j,rfl,hj⟩:=J q D;exact h⟩
  |ret=>exact⟨0,λ G q _ D=>by obtain⟨j,rfl,hj⟩:=J q D;exact h⟩
  |region id Z8 d=>
   simp only[eN]at h;split at h;.rename_i T' st' hr;obtain⟨m,hm⟩:=as0 hL hr;refine⟨m,λ G q y D=>?_⟩;grind[eN]
   cases h
  |seq a b=>
   simp only[eN]at h;split at h;.rename_i T1 lf Y;obtain⟨A,M⟩:=K a _ _ _ Y;obtain⟨m2,h2⟩:=K b _ _ _ h;refine⟨max A m2,λ G q y D=>?_⟩;grind[eN]
   rename_i N;obtain⟨A,M⟩:=K a _ _ _ h;refine⟨A,λ G q y D=>?_⟩;grind[eN]
  |cond x a b=>
   simp only[eN]at h;split at h;.rename_i hx;obtain⟨A,M⟩:=K a _ _ _ h;refine⟨A,λ G q y D=>?_⟩;grind[eN]
   .rename_i hx;obtain⟨A,M⟩:=K b _ _ _ h;refine⟨A,λ G q y D=>?_⟩;grind[eN]
   cases h
  |block id a=>
   simp only[eN]at h;split at h;.rename_i i T1 lf Y;obtain⟨A,M⟩:=K a _ _ _ Y;refine⟨A,λ G q y D=>?_⟩;grind[eN]
   rename_i N;obtain⟨A,M⟩:=K a _ _ _ h;refine⟨A,λ G q y D=>?_⟩;grind[eN]
  |loop a=>
   simp only[eN]at h;split at h;.rename_i T1 lf Y;obtain⟨A,M⟩:=K a _ _ _ Y;obtain⟨m2,h2⟩:=K (.loop a) _ _ _ h;refine⟨max A m2,λ G q y D=>?_⟩;grind[eN]
   rename_i N;obtain⟨A,M⟩:=K a _ _ _ h;refine⟨A,λ G q y D=>?_⟩;grind[eN]
  |rangeFunc _ _ _ _=>cases h
  |scope _=>cases h
  |label _=>cases h
  |goto _=>cases h
  |refuse _=>cases h
def JC(J:rT L calls){pol:FuncId->eV}{f:FuncId}(h:tF P pol gl L k f args S=some r):∃m,∀q y,m<=q->k<=y->tF P pol gl (calls q) y f args S=some r:=by
 unfold tF at h⊢;split at h;.cases h
 rename_i fn N;split at h;.cases h
 rename_i c Y;split at h;.cases h
 .rename_i e T st A G;obtain⟨m,K⟩:=OD J _ _ _ _ _ G;refine⟨m,λ q y D M=>?_⟩;simp_all
 cases h
def atT(A:rT L calls){pol:FuncId->eV}{f:FuncId}(h:xW P pol gl L k f args S=some r):∃m,∀q y,m<=q->k<=y->xW P pol gl (calls q) y f args S=some r:=by
 unfold xW at h⊢;split at h
 .split at h;.rename_i v S' w G;obtain⟨m,J⟩:=JC A G;exact⟨m,λ q y D K=>by simp_all⟩
  cases h
 exact JC A h
variable{pol:FuncId->eV}{bset:FuncId->Bool}{base:eH}
def abF:∀(m:Nat) (f:FuncId) (a:List ae) (S:List bI) (r:ae×List bI×Bool),ji P pol gl bset base m f a S=some r->ji P pol gl bset base (m+1) f a S=some r
 |0,_,_,_,_,h=>by cases h
 |m+1,f,a,S,r,h=>by
  simp only[ji]at h⊢;split at h;.exact h
  have y:rT (ji P pol gl bset base m) (λ _=>ji P pol gl bset base (m+1)):=λ f a S r h=>⟨0,λ _ _=>abF m f a S r h⟩
  obtain⟨k,q⟩:=atT y h;exact q k (m+1) (be _) (jl _)
theorem N1(q:m<=k){f:FuncId}(h:ji P pol gl bset base m f a S=some r):ji P pol gl bset base k f a S=some r:=by
 obtain⟨d,rfl⟩:=ait q;clear q;induction d with
 |zero=>exact h
 |succ d y=>exact abF _ _ _ _ _ y
open Classical in
noncomputable def vω(P:Program)(pol:FuncId->eV)(gl:aM)(bset:FuncId->Bool)(base:eH):cI:=λ f a S=>if h:∃r m,ji P pol gl bset base m f a S=some r then some (Classical.choose h)else none
theorem Jv{f:FuncId}:vω P pol gl bset base f a S=some r↔∃m,ji P pol gl bset base m f a S=some r:=by
 unfold vω;constructor
 .intro h;split at h;.grind
  cases h
 rintro⟨m,h⟩
 have q:∃r m,ji P pol gl bset base m f a S=some r:=⟨r,m,h⟩;rw[xB q];obtain⟨k,y⟩:=ui q;have a:=N1 (BE m k) h;grind[N1,Nat.le_max_right]
def RZ:rT (vω P pol gl bset base) (ji P pol gl bset base):=λ f a S r h=>by obtain⟨m,y⟩:=Jv.1 h;exact⟨m,λ A q=>N1 q y⟩
def xJ(P:Program)(pf:eV)(gl:aM)(Z7:cI)(n:Nat)(c:Code)(T:VT)(st:aq):Option bZ:=open Classical in if h:∃r m,eN P pf gl Z7 n m c T st=some r then some (Classical.choose h)else none
variable{pf:eV}{Z7:cI}{n:Nat}{T:VT}{st:aq}
theorem Zl(q:m<=k){c:Code}{r:bZ}(h:eN P pf gl Z7 n m c T st=some r):eN P pf gl Z7 n k c T st=some r:=by obtain⟨j,y⟩:=OD (L:=Z7) (calls:=λ _=>Z7) (λ f a S r h=>⟨0,λ _ _=>h⟩) _ _ _ _ _ h;exact y j k (be _) q
theorem FF{c:Code}{r:bZ}:xJ P pf gl Z7 n c T st=some r↔∃m,eN P pf gl Z7 n m c T st=some r:=by
 unfold xJ;constructor
 .intro h;split at h;.grind
  cases h
 rintro⟨m,h⟩
 have q:∃r m,eN P pf gl Z7 n m c T st=some r:=⟨r,m,h⟩;rw[xB q];obtain⟨k,y⟩:=ui q;have a:=Zl (BE m k) h;grind[Zl,Nat.le_max_right]
theorem A4{a b:Option α}(h:∀r,a=some r↔b=some r):a=b:=by
 cases a
 .cases b;.rfl
  rename_i x;exact((h x).2 rfl)
 rename_i x;grind
def mY(k:VT->aq->Option bZ):Option bZ->Option bZ
 |some (.normal,T,st)=>k T st
 |r=>r
def Iw(a b:Option bZ):Option ae->Option bZ
 |some (.sc (.bool true))=>a
 |some (.sc (.bool false))=>b
 |_=>none
def Kr(id:Nat):Option bZ->Option bZ
 |some (.exit j,T,st)=>if j=id then some (.normal,T,st)else some (.exit j,T,st)
 |r=>r
def Af(P:Program)(rs:List ResultVar):Option bZ->Option (ae×List bI×Bool)
 |some (.exit _,_,_)=>none
 |some (_,T,st)=>match tV P st T rs with
  |some l=>some (lD l,st.up,st.w)
  |none=>none
 |none=>none
theorem X1{f:FuncId}{c:Code}(h:P.funcs[f]? =some fn)(q:fn.body=some c):tF P pol gl Z7 m f args S=Af P fn.results.toList (eN P (pol f) gl Z7 (args.length+(fn.ntmps-args.length)) m c (lM 0 args) (aH [] S)):=by grind[tF,Af]
theorem amz{f:FuncId}{c:Code}(J:P.funcs[f]? =some fn)(K:fn.body=some c)(M:bset f=false)
 (h:Af P fn.results.toList (xJ P (pol f) gl (vω P pol gl bset base) (args.length+(fn.ntmps-args.length)) c (lM 0 args) (aH [] S))=some r) (A:args.any ae.open=true):vω P pol gl bset base f args S=some r:=by
 cases y:xJ P (pol f) gl (vω P pol gl bset base) (args.length+(fn.ntmps-args.length)) c (lM 0 args) (aH [] S);.rw[y]at h;cases h
 .rename_i s;obtain⟨k,G⟩:=FF.1 y;have q:tF P pol gl (vω P pol gl bset base) k f args S=some r:=by grind[X1]
  obtain⟨m,D⟩:=JC RZ q;refine Jv.2 ⟨max m k+1,?_⟩;grind[ji,xW]
theorem azT{f:FuncId}{c:Code}{S':List bI}{w:Bool}(J:P.funcs[f]? =some fn)(K:fn.body=some c)(M:bset f=false)
 (h:Af P fn.results.toList (xJ P (pol f) gl (vω P pol gl bset base) (args.length+(fn.ntmps-args.length)) c (lM 0 args) (aH [] []))=some (v,S',w)) (A:args.any ae.open=false):vω P pol gl bset base f args S=some (v,S,false):=by
 cases y:xJ P (pol f) gl (vω P pol gl bset base) (args.length+(fn.ntmps-args.length)) c (lM 0 args) (aH [] []);.rw[y]at h;cases h
 .rename_i s;obtain⟨k,G⟩:=FF.1 y;have q:tF P pol gl (vω P pol gl bset base) k f args []=some (v,S',w):=by grind[X1]
  obtain⟨m,D⟩:=JC RZ q;refine Jv.2 ⟨max m k+1,?_⟩;grind[ji,xW]
def wU{f:FuncId}(y:bset f=true)(h:base f args=some v)(q:args.any ae.open=false):vω P pol gl bset base f args S=some (v,S,false):=Jv.2 ⟨1,by simp only[ji,y,q,h]⟩
end
inductive bu where
 |t (i:Nat)
 |i (n:Int)
 |b (x:Bool)
 |v (x:ae)
 |g (n:Nat)
 |f (n:Nat)
def bh(gl:aM)(T:VT):bu->Option ae
 |.t i=>some (jK T i)
 |.i n=>some (.sc (.int .i64 n))
 |.b x=>some (.sc (.bool x))
 |.v x=>some x
 |.g n=>match gl n with|some cs=>some (.rp cs 0)|none=>none
 |.f n=>some (.fn n [])
def py(gl:aM)(T:VT):List bu->Option (List ae)
 |[]=>some []
 |x::l=>match bh gl T x,py gl T l with
  |some a,some r=>some (a::r)
  |_,_=>none
def lK(gl:aM)(T:VT):List (Nat×bu)->Option (List (Nat×ae))
 |[]=>some []
 |(i,x)::l=>match bh gl T x,lK gl T l with
  |some a,some r=>some ((i,a)::r)
  |_,_=>none
def pZ(gl:aM)(T:VT):Option bu->Option (Option ae)
 |none=>some none
 |some x=>match bh gl T x with|some a=>some (some a)|none=>none
def aB:bu->List Tmp
 |.t i=>[i]
 |_=>[]
def wY:List (Nat×bu)->List Tmp
 |[]=>[]
 |(_,x)::l=>aB x++wY l
inductive CO where
 |mv (x:bu)
 |tk (sz:Nat) (x:bu)
 |pk (c a b:bu)
 |bl (z:List ae) (pl:List (Nat×Nat)) (ps:List (Nat×bu))
 |bt (z:List ae) (pl:List (Nat×Nat)) (ps:List (Nat×bu))
 |nl (x:bu)
 |bn (op:BinOp) (t:Nat) (x y:bu)
 |un (op:UnOp) (x:bu)
 |mn (x y:bu)
 |mx (x y:bu)
 |cv (k:IntKind) (x:bu)
 |mf (f:Nat) (cap:List bu)
 |fa (o:Nat) (x:bu)
 |ia (sl:Option Nat) (ar:Option (Nat×Nat)) (x ix:bu)
 |ix (t:Nat) (x i:bu)
 |ex (i:Nat) (x:bu)
 |ln (sl:Bool) (t:Nat) (x:bu)
 |ld (tk agg:Bool) (n:Nat) (x:bu)
 |sx (sl:Option Nat) (str:Bool) (x:bu) (lo hi:Option bu)
 |al (z:List ae)
 |bx (tk:Bool) (x:bu)
 |bs (sz:Nat) (z:List ae) (n:Nat) (ps:List (Nat×bu))
 |mk (z:List ae) (l c:bu)
 |st (n:Nat) (x v:bu)
 |cl (f:bu) (args:List bu)
 |ap (sz:Nat) (s x:bu)
structure CE where
 d:Option Tmp
 g:Option (Tmp×Bool)
 o:CO
abbrev O(d:Nat)(c:CO):CE:=⟨some d,none,c⟩
abbrev E(c:CO):CE:=⟨none,none,c⟩
abbrev Q(d t:Nat)(b:Bool)(c:CO):CE:=⟨some d,some (t,b),c⟩
inductive CC where
 |skip
 |ak (l:List CE) (out:Option (List Nat×List Nat))
 |dK (l:List CE) (bef:List (List Nat)) (out:Option (List Nat×List Nat))
 |seq (a b:CC)
 |cond (x:bu) (a b:CC)
 |block (id:Nat) (a:CC)
 |loop (head:Option (List Nat×List Nat)) (a:CC)
 |exit (id:Nat)
 |ret
def sR(sz:Nat):ae->ae
 |.sl [] (some 0)=>.sl [] (some sz)
 |v=>v
def mP(sl:Option Nat)(q:Option (Nat×Nat))(x ix:ae):Option ae:=
 match AJ ix with
 |none=>none
 |some i=>
  match x with
  |.sl es _=>match sl,es[i]?with
   |some sz,some e=>if e.length=sz then some (.rp e 0)else none
   |_,_=>none
  |.ms d k len sz=>match sl with
   |some h=>if i<len/\h=sz then some (.ptr d k (i*sz))else none
   |none=>none
  |.ptr d k off=>match q with
   |some (n,sz)=>if i<n then some (.ptr d k (off+i*sz))else none
   |none=>none
  |.rp cs off=>match q with
   |some (n,sz)=>if i<n then some (.rp cs (off+i*sz))else none
   |none=>none
  |_=>none
def yc(P:Program)(sl:Bool)(t:Nat):ae->Option ae
 |.sl es _=>match sl with|true=>some (.sc (.int .i64 es.length))|false=>none
 |.ms _ _ n _=>match sl with|true=>some (.sc (.int .i64 n))|false=>none
 |.sc a=>match dD P t a with|some r=>kx r|none=>none
 |_=>none
def zz(o:Nat):ae->Option ae
 |.ptr d k off=>some (.ptr d k (off+o))
 |.rp cs off=>some (.rp cs (off+o))
 |_=>none
def jt(agg:Bool)(n:Nat)(cs:List ae)(off:Nat):Option ae:=
 match agg with
 |true=>match qO cs off n with|some l=>some (.agg l)|none=>none
 |false=>cs[off]?
def qk(tk agg:Bool)(n:Nat)(st:aq):ae->Option (ae×Option (Nat×Nat)×aq)
 |.rp cs off=>match jt agg n cs off with|some v=>some (bD v,none,st)|none=>none
 |.ptr d k off=>match bE st d k with
  |some cs=>match jt agg n cs off with
   |some v=>(match tk with
    |true=>some (v,some (d,k),oU st d k (cm cs off ((cond agg v.cells [v]).map di)))
    |false=>some (bD v,some (d,k),st))
   |none=>none
  |none=>none
 |_=>none
def nf(sl:Option Nat)(str:Bool)(x:ae)(lo hi:Option ae):Option ae:=
 match x with
 |.sl es _=>
  match sl,kU lo 0,kU hi es.length with
  |some sz,some l,some h=>if l<=h/\h<=es.length/\fR sz es=true then some (.sl ((es.drop l).take (h-l)) none)else none
  |_,_,_=>none
 |.sc (.str s)=>
  match str,kU lo 0,kU hi s.length with
  |true,some l,some h=>if l<=h/\h<=s.length then some (.sc (.str ((s.drop l).take (h-l))))else none
  |_,_,_=>none
 |_=>none
def wC(st:aq)(n:Nat)(x v:ae):Option (aq×Nat×Nat):=
 match x with
 |.ptr d k off=>
  match bE st d k with
  |some cs=>
   match v.fw,v.cells.length==n,decide (off+n<=cs.length),(d==st.up.length||v.cells.all ae.data)&&v.cells.all ae.cell with
   |false,true,true,true=>some (m9 st d k (cm cs off v.cells),d,k)
   |_,_,_,_=>none
  |none=>none
 |_=>none
def iG(st:aq)(sz:Nat)(s x:ae):Option ae:=
 match s with
 |.sl es (some z)=>
  match IN st x with
  |some new=>if(z=sz\/(z=0/\es=[]))/\es.length+new.length<=1073741824/\fR sz new=true then some (.sl (es++new) (some sz))else none
  |none=>none
 |_=>none
def Dt(P:Program)(gl:aM)(Z7:cI)(T:VT)(st:aq)(f:bu)(args:List bu):Option VR:=
 match bh gl T f,py gl T args with
 |some (.fn g cap),some l=>match cy P g with
  |true=>match Z7 g ((l++cap).map (gQ (st.cur::st.up))) (st.cur::st.up)with
   |some (v,F::S,d)=>
    (match(l++cap).any ae.fY&&(!(wx v)||((l++cap).map (gQ (st.cur::st.up))).any ae.open)with
     |false=>some ⟨v,[],{w:=st.w||d,cur:=F,up:=S},.eP (mZ d)⟩
     |true=>none)
   |_=>none
  |false=>none
 |_,_=>none
def cP(st:aq)(src:List Tmp):Option ae->Option VR
 |some v=>some ⟨v,src,st,.pure⟩
 |none=>none
def oB{α h:Type}:Option α->(α->Option h)->Option h
 |some a,f=>f a
 |none,_=>none
def aN(P:Program)(gl:aM)(Z7:cI)(T:VT)(st:aq)(dst:Option Tmp):CO->Option VR
 |.mv x=>oB (bh gl T x) λ v=>some ⟨bD v,[],st,.pure⟩
 |.tk sz x=>oB (bh gl T x) λ v=>some ⟨sR sz v,aB x,st,.pure⟩
 |.pk c a b=>oB (bh gl T c) λ c=>oB (bh gl T a) λ a=>oB (bh gl T b) λ b=>cP st [] (yY c a b)
 |.bl z q ps=>oB (lK gl T ps) λ l=>oB (kY q z (l.map λ p=>(p.1,bD p.2))) λ cs=>some ⟨.agg cs,[],st,.pure⟩
 |.bt z q ps=>oB (lK gl T ps) λ l=>oB (kY q z l) λ cs=>some ⟨.agg cs,wY ps,st,.pure⟩
 |.nl x=>oB (bh gl T x) λ v=>cP st [] (wR v)
 |.bn A t x y=>oB (bh gl T x) λ a=>oB (bh gl T y) λ b=>cP st [] (dn P A t a b)
 |.un A x=>oB (bh gl T x) λ v=>cP st [] (vg A v)
 |.mn x y=>oB (bh gl T x) λ a=>oB (bh gl T y) λ b=>cP st [] (DM a b)
 |.mx x y=>oB (bh gl T x) λ a=>oB (bh gl T y) λ b=>cP st [] (BJ a b)
 |.cv k x=>oB (bh gl T x) λ v=>match v with|.sc (.int _ n)=>some ⟨.sc (.int k (k.wrap n)),[],st,.pure⟩|_=>none
 |.mf f cap=>oB (py gl T cap) λ l=>some ⟨.fn f (l.map bD),[],st,.pure⟩
 |.fa o x=>oB (bh gl T x) λ v=>cP st [] (zz o v)
 |.ia sl D x ix=>oB (bh gl T x) λ a=>oB (bh gl T ix) λ i=>cP st [] (mP sl D a i)
 |.ix t x i=>oB (bh gl T x) λ a=>oB (bh gl T i) λ i=>cP st [] (CU P t a i)
 |.ex i x=>oB (bh gl T x) λ v=>cP st [] (sd i v)
 |.ln sl t x=>oB (bh gl T x) λ v=>cP st [] (yc P sl t v)
 |.ld tk agg n x=>oB (bh gl T x) λ a=>oB (qk tk agg n st a) λ r=>some ⟨r.1,[],r.2.2,.read r.2.1⟩
 |.sx sl str x lo hi=>oB (bh gl T x) λ a=>oB (pZ gl T lo) λ l=>oB (pZ gl T hi) λ h=>oB (nf sl str a l h) λ v=>some ⟨v,[],st,.read none⟩
 |.al z=>oB dst λ k=>oB (gY T st k z) λ st'=>some ⟨.ptr st.up.length k 0,[],st',.new true⟩
 |.bx tk x=>oB dst λ k=>oB (bh gl T x) λ v=>match v.fw with
  |true=>none
  |false=>oB (gY T st k (match tk with|true=>v.cells|false=>(bD v).cells)) λ st'=>some ⟨.ptr st.up.length k 0,(match tk with|true=>aB x|false=>[]),st',.new true⟩
 |.bs sz z n ps=>oB (lK gl T ps) λ l=>oB (mM sz (List.replicate n z) l) λ es=>some ⟨.sl es (some sz),[],st,.new false⟩
 |.mk z l c=>oB dst λ k=>oB (bh gl T l) λ a=>oB (bh gl T c) λ b=>match a,b with
  |.sc (.int .i64 (.ofNat n)),.sc (.int .i64 (.ofNat m))=>if n=m/\n<=1073741824 then oB (gY T st k (List.replicate n z).flatten) λ st'=>some ⟨.ms st.up.length k n 1,[],st',.new true⟩else none
  |_,_=>none
 |.st n x v=>oB (bh gl T x) λ p=>oB (bh gl T v) λ w=>oB (wC st n p w) λ r=>some ⟨.aL [],aB v,r.1,.eP (.box r.2.1 r.2.2)⟩
 |.cl f args=>Dt P gl Z7 T st f args
 |.ap sz s x=>oB (bh gl T s) λ a=>oB (bh gl T x) λ b=>oB (iG st sz a b) λ v=>some ⟨v,aB s,st,.eP .clean⟩
def oT(T:VT):Option (Tmp×Bool)->Option Bool
 |none=>some true
 |some (t,want)=>match jK T t with
  |.sc (.bool b)=>some (b==want)
  |.un=>some false
  |_=>none
def mJ(P:Program)(gl:aM)(Z7:cI)(n:Nat):List CE->VT->aq->Option (VT×aq)
 |[],T,st=>some (T,st)
 |e::l,T,st=>
  match oT T e.g with
  |some true=>match aN P gl Z7 T st e.d e.o with
   |some r=>mJ P gl Z7 n l (da n (gZ r.src T) e.d r.v) r.st
   |none=>none
  |some false=>mJ P gl Z7 n l (da n T e.d .un) st
  |none=>none
def Bp(bef:List Nat):List Nat->Bool
 |[]=>true
 |a::l=>bef.elem a&&Bp bef l
def kT(bef:List Nat)(i:Nat)(Z:cR):pj->Option cR
 |.pure=>some Z
 |.read none=>match Z.cA,Z.al with
  |[],_=>some Z
  |_,true=>none
  |_,false=>some {Z with rs:=(i,none,Z.es.length)::Z.rs}
 |.read (some b)=>match Z.an,Z.al with
  |false,_=>some {Z with rs:=(i,some b,Z.es.length)::Z.rs}
  |true,true=>none
  |true,false=>some {Z with rs:=(i,none,Z.es.length)::Z.rs}
 |.new b=>some {Z with cA:=i::Z.cA,al:=true,an:=Z.an||b}
 |.eP d=>match Bp bef Z.cA with
  |true=>some {Z with cA:=i::Z.cA,es:=(i,d)::Z.es,al:=false}
  |false=>none
def jP(P:Program)(gl:aM)(Z7:cI)(n:Nat)(bef:List (List Nat)):List CE->Nat->cR->VT->aq->Option (cR×VT×aq)
 |[],_,Z,T,st=>some (Z,T,st)
 |e::l,i,Z,T,st=>
  match oT T e.g with
  |some true=>match aN P gl Z7 T st e.d e.o with
   |some r=>match kT (bef.getD i []) i Z r.e with
    |some h=>jP P gl Z7 n bef l (i+1) h (da n (gZ r.src T) e.d r.v) r.st
    |none=>none
   |none=>none
  |some false=>jP P gl Z7 n bef l (i+1) Z (da n T e.d .un) st
  |none=>none
def lH(bef:List (List Nat))(j:Nat)(ok:Nat->Bool):List (Nat×fq)->Option Nat->Bool
 |[],up=>(match up with|some e=>(bef.getD j []).elem e|none=>false)||ok 0
 |e::es,up=>((match up with|some e'=>(bef.getD j []).elem e'|none=>false)||(bef.getD e.1 []).elem j||ok (es.length+1))&&lH bef j ok es (some e.1)
def vu(bef:List (List Nat))(es:List (Nat×fq)):List (Nat×Option (Nat×Nat)×Nat)->Bool
 |[]=>true
 |r::rs=>lH bef r.1 (yy r.2.1 r.2.2 es) es none&&vu bef es rs
def sn:CO->CO
 |.tk _ x=>.mv x
 |.bt z h ps=>.bl z h ps
 |.ld _ agg n x=>.ld false agg n x
 |.bx _ x=>.bx false x
 |c=>c
def mF(P:Program)(gl:aM)(Z7:cI)(n:Nat)(bef:List (List Nat))(aK:aq):List CE->Nat->cR->VT->VT->aq->Option (cR×VT×aq)
 |[],_,Z,T,_,st=>some (Z,T,st)
 |e::l,i,Z,T,U,st=>
  match oT T e.g with
  |some true=>match aN P gl Z7 T st e.d e.o with
   |some r=>match mg Z.es r.e (aN P gl kF U aK e.d (sn e.o))with
    |q=>match u9 Z (kT (bef.getD i []) i Z r.e) q with
     |some h=>mF P gl Z7 n bef aK l (i+1) h (da n (gZ r.src T) e.d r.v) (da n U e.d (zt q)) r.st
     |none=>none
   |none=>none
  |some false=>mF P gl Z7 n bef aK l (i+1) Z (da n T e.d .un) (da n U e.d .un) st
  |none=>none
def tQ(bef:List (List Nat)):Option (cR×VT×aq)->Option (VT×aq)
 |some (Z,T',st')=>match vu bef Z.es Z.rs with|true=>some (T',st')|false=>none
 |none=>none
def uf(P:Program)(gl:aM)(Z7:cI)(n:Nat)(l:List CE)(bef:List (List Nat))(T:VT)(st:aq):Option (VT×aq):=Lj (tQ bef (jP P gl Z7 n bef l 0 ⟨[],[],false,false,[]⟩ T st)) (tQ bef (mF P gl Z7 n bef st l 0 ⟨[],[],false,false,[]⟩ T T st))
def me(o:Option (List Nat×List Nat))(T:VT)(st:aq):VT×aq:=
 match o with
 |some (a,b)=>(lp a T,{st with cur:=lp b st.cur})
 |none=>(T,st)
def eZ(P:Program)(gl:aM)(Z7:cI)(n:Nat):Nat->CC->VT->aq->Option bZ
 |0,_,_,_=>none
 |m+1,c,T,st=>
  match c with
  |.skip=>some (.normal,T,st)
  |.ak l out=>match mJ P gl Z7 n l T st with|some (T',st')=>some (.normal,me out T' st')|none=>none
  |.dK l bef out=>match uf P gl Z7 n l bef T st with|some (T',st')=>some (.normal,me out T' st')|none=>none
  |.seq a b=>match eZ P gl Z7 n m a T st with
   |some (.normal,T',st')=>eZ P gl Z7 n m b T' st'
   |r=>r
  |.cond x a b=>match bh gl T x with
   |some (.sc (.bool true))=>eZ P gl Z7 n m a T st
   |some (.sc (.bool false))=>eZ P gl Z7 n m b T st
   |_=>none
  |.block id a=>match eZ P gl Z7 n m a T st with
   |some (.exit j,T',st')=>if j=id then some (.normal,T',st')else some (.exit j,T',st')
   |r=>r
  |.loop h a=>match eZ P gl Z7 n m a (me h T st).1 (me h T st).2 with
   |some (.normal,T',st')=>eZ P gl Z7 n m (.loop h a) T' st'
   |r=>r
  |.exit id=>some (.exit id,T,st)
  |.ret=>some (.ret,T,st)
def fQ:Operand->Option bu
 |.tmp t=>some (.t t)
 |.const w=>match ofValue w with
  |some a=>match kx a with
   |some (.sc (.int .i64 n))=>some (.i n)
   |some (.sc (.bool x))=>some (.b x)
   |some v=>some (.v v)
   |none=>none
  |none=>none
 |.global g=>some (.g g)
 |.func f=>some (.f f)
def GI:List Operand->Option (List bu)
 |[]=>some []
 |x::l=>match fQ x,GI l with
  |some a,some r=>some (a::r)
  |_,_=>none
def Fi:List (Nat×Operand)->Option (List (Nat×bu))
 |[]=>some []
 |(i,x)::l=>match fQ x,Fi l with
  |some a,some r=>some ((i,a)::r)
  |_,_=>none
def L0:Option Operand->Option (Option bu)
 |none=>some none
 |some x=>match fQ x with|some a=>some (some a)|none=>none
def zQ(P:Program)(t:TypeId):Option Nat:=match nC P t with|some (sz,_)=>some sz|none=>none
def OK(P:Program)(t:TypeId):Bool:=match P.underlying t with|some .string=>true|_=>false
def A3(P:Program)(tk:Bool)(ty:TypeId)(x:Operand):Option CO:=
 match fQ x with
 |some o=>match tk with
  |true=>some (.tk (match nC P ty with|some (sz,_)=>sz|none=>0) o)
  |false=>some (.mv o)
 |none=>none
def iS(P:Program)(tk:Bool)(ty:TypeId):Op->Option CO
 |.move x=>A3 P tk ty x
 |.assign x=>A3 P tk ty x
 |.pick c a b=>match fQ c,fQ a,fQ b with|some c,some a,some b=>some (.pk c a b)|_,_,_=>none
 |.build t ps=>match Fi ps.toList,OV P t with
  |some l,some (z,D)=>(match tk with
   |true=>(match BK (nT ps.toList)with|true=>some (.bt z D l)|false=>none)
   |false=>some (.bl z D l))
  |_,_=>none
 |.nilCheck x=>match fQ x with|some a=>some (.nl a)|none=>none
 |.binOp A t x y _=>match fQ x,fQ y with|some a,some b=>some (.bn A t a b)|_,_=>none
 |.unOp A _ x=>match fQ x with|some a=>some (.un A a)|none=>none
 |.convert s d x=>match fQ x,P.underlying s,P.underlying d with|some a,some _,some (.int k)=>some (.cv k a)|_,_,_=>none
 |.makeFunc (.func f) ⟨[]⟩ cap=>match GI cap.toList with|some b=>some (.mf f b)|none=>none
 |.fieldAddr s x f=>match fQ x,Ea P s f with|some a,some o=>some (.fa o a)|_,_=>none
 |.indexAddr t x ix=>match fQ x,fQ ix with|some a,some i=>some (.ia (zQ P t) (Ae P t) a i)|_,_=>none
 |.index t x ix=>match fQ x,fQ ix with|some a,some i=>some (.ix t a i)|_,_=>none
 |.extract x i=>match fQ x with|some a=>some (.ex i a)|none=>none
 |.call {callee:=.builtin .len,args:=⟨[x]⟩,argTypes:=⟨t::_⟩}=>match fQ x with|some a=>some (.ln (tD P t) t a)|none=>none
 |.call {callee:=.builtin .min,args:=⟨[x,y]⟩,..}=>match fQ x,fQ y with|some a,some b=>some (.mn a b)|_,_=>none
 |.call {callee:=.builtin .max,args:=⟨[x,y]⟩,..}=>match fQ x,fQ y with|some a,some b=>some (.mx a b)|_,_=>none
 |.load t a=>match fQ a,Dv P t with|some x,some (agg,n)=>some (.ld tk agg (cond agg n 1) x)|_,_=>none
 |.slice t x lo hi none=>match fQ x,L0 lo,L0 hi with|some a,some l,some h=>some (.sx (zQ P t) (OK P t) a l h)|_,_,_=>none
 |.alloc t=>match qZ P t with|some z=>some (.al z.cells)|none=>none
 |.box _ x=>match fQ x with|some a=>some (.bx tk a)|none=>none
 |.buildSlice t n ps=>match Fi ps.toList,nC P t,wK P t with
  |some l,some (sz,_),some z=>if n*sz<=16777216/\z.all ae.data=true then some (.bs sz (z.map di) n l)else none
  |_,_,_=>none
 |.makeSlice t l c=>match fQ l,fQ c,nC P t,wK P t with
  |some l,some c,some (sz,q),some z=>if q<=1024/\z.all ae.data=true/\sz=1 then some (.mk (z.map di) l c)else none
  |_,_,_,_=>none
 |.store t a x=>match fQ a,fQ x,IX P t with|some p,some v,some n=>some (.st n p v)|_,_,_=>none
 |.call {callee:=.value f,args,..}=>match fQ f,GI args.toList with|some f,some l=>some (.cl f l)|_,_=>none
 |.call {callee:=.builtin .append,args:=⟨[s,x]⟩,argTypes:=⟨[t,u]⟩}=>match fQ s,fQ x,nC P t,wK P t,tD P u with
  |some a,some b,some (sz,q),some _,true=>if q<=1024 then some (.ap sz a b)else none
  |_,_,_,_,_=>none
 |_=>none
def Rt(Z8:List Oper):Option (Nat×Bool)->Option (Option (Tmp×Bool))
 |none=>some none
 |some (j,want)=>match Z8[j]?with
  |some h=>match h.dst with
   |some d=>some (some (d,want))
   |none=>none
  |none=>none
def zq(P:Program)(tk:List Nat)(Z8:List Oper):List Oper->Option (List CE)
 |[]=>some []
 |o::l=>match Rt Z8 o.guard,iS P (um tk o.dst) o.type o.op,zq P tk Z8 l with
  |some g,some c,some r=>some (⟨o.dst,g,c⟩::r)
  |_,_,_=>none
def bits(m:Nat):List Nat:=(List.range (m.log2+1)).filter λ i=>tb m i
def zB(Z8:Array Oper):List (List Nat):=(Region.before Z8).toList.map bits
def lU(P:Program)(pf:eV):Code->Option CC
 |.skip=>some .skip
 |.region id Z8 d=>match zq P pf.take Z8.toList Z8.toList with
  |some l=>(match d with|true=>some (.dK l (zB Z8) (lk pf.out id))|false=>some (.ak l (lk pf.out id)))
  |none=>none
 |.seq a b=>match lU P pf a,lU P pf b with|some a,some b=>some (.seq a b)|_,_=>none
 |.cond x a b=>match fQ x,lU P pf a,lU P pf b with|some x,some a,some b=>some (.cond x a b)|_,_,_=>none
 |.block id a=>match lU P pf a with|some a=>some (.block id a)|none=>none
 |.loop a=>match lU P pf a with|some c=>some (.loop (lk pf.head (Dp a)) c)|none=>none
 |.exit id=>some (.exit id)
 |.ret=>some .ret
 |_=>none
section
variable{P:Program}{gl:aM}{T:VT}{st:aq}
theorem gJ{x:Operand}{o:bu}(h:fQ x=some o):eC gl T x=bh gl T o:=by
 cases x with
 |tmp t=>cases h;rfl
 |const w=>
  simp only[fQ]at h;simp only[eC];split at h
  .rename_i a y;rw[y];show kx a=_;cases q:kx a;.rw[q]at h;cases h
   rename_i v;rw[q]at h;split at h;.rename_i e;cases e;cases h;rfl
   .rename_i e;cases e;cases h;rfl
   .rename_i e;cases e;cases h;rfl
   rename_i e;cases e
  cases h
 |global g=>cases h;rfl
 |func f=>cases h;rfl
theorem Fy{x:Operand}{o:bu}(h:fQ x=some o):jB x=aB o:=by
 cases x with
 |tmp t=>cases h;rfl
 |const w=>
  simp only[fQ]at h;split at h;.split at h<;>first|(cases h;rfl)|cases h
  cases h
 |global g=>cases h;rfl
 |func f=>cases h;rfl
def SN:∀{l:List Operand} {r:List bu},GI l=some r->As gl T l=py gl T r
 |[],r,h=>by cases h;rfl
 |x::l,r,h=>by
  simp only[GI]at h;split at h;.rename_i a b y q;cases h;simp only[As,py,gJ y,SN q];rfl
  cases h
theorem P1:∀{l:List (Nat×Operand)} {r:List (Nat×bu)},Fi l=some r->AV gl T l=lK gl T r/\nT l=wY r
 |[],r,h=>by cases h;exact⟨rfl,rfl⟩
 |(i,x)::l,r,h=>by
  simp only[Fi]at h;split at h;.rename_i a b y q;cases h;obtain⟨D,A⟩:=P1 q;grind[AV,lK,gJ,nT,wY,Fy]
  cases h
theorem afq{x:Option Operand}{o:Option bu}(h:L0 x=some o):D7 gl T x=pZ gl T o:=by
 cases x;.cases h;rfl
 rename_i x;grind[L0,D7,pZ,gJ]
theorem auj(P:Program)(ty:TypeId)(v:ae):yg P ty v=sR (match nC P ty with|some (sz,_)=>sz|none=>0) v:=by
 cases v with
 |sl es o=>
  cases es
  .cases o;.rfl
   rename_i n;cases n;.grind[yg,sR]
   rename_i n;rfl
  rename_i e es;rfl
 |_=>rfl
theorem axL:(match qO cs off 1 with|some (c::_)=>some c|_=>none)=cs[off]? :=by grind[qO,List.drop_eq_getElem_cons]
theorem af4{agg:Bool}(A:Dv P t=some (agg,n))(x:ae):vk P tk st t x=qk tk agg (cond agg n 1) st x:=by
 have y:∀cs off,Cb P t cs off=(jt agg (cond agg n 1) cs off).map λ v=>(v,cond agg n 1):=by grind[Cb,jt,axL]
 unfold vk qk;cases x with
 |rp cs off=>grind
 |ptr d k off=>
  simp only;cases bE st d k;.rfl
  rename_i cs;simp only[y];cases h:jt agg (cond agg n 1) cs off;.rfl
  rename_i v;simp only[lA];cases tk;.rfl
  simp only
  have:(cs.drop off).take (cond agg n 1)=(cond agg v.cells [v]):=by
   unfold jt at h;cases agg;.grind[List.drop_eq_getElem_cons]
   simp only[Nx]at h⊢;unfold qO at h;split at h
   .rename_i l q;split at q;.cases q;cases h;rfl
    cases q
   cases h
  rw[this]
 |_=>rfl
theorem anK{x ix:ae}:HS P t x ix=mP (zQ P t) (Ae P t) x ix:=by grind[HS,mP,zQ]
def axR{x:ae}:Lo P t x=yc P (tD P t) t x:=by cases x<;>rfl
theorem apX{x:ae}{lo hi:Option ae}:Bn P t x lo hi=nf (zQ P t) (OK P t) x lo hi:=by unfold Bn nf zQ OK;grind
def al1{s:TypeId}{f:Nat}(h:Ea P s f=some o){x:ae}:Ft P s f x=zz o x:=by unfold Ft zz;cases x<;>simp only[h]
theorem axU(h:IX P t=some n){x:ae}:BP P st t x v=wC st n x v:=by unfold BP wC;rw[h];cases x<;>rfl
theorem aoC{u:TypeId}{h:Nat}{z:List ae}(A:nC P t=some (sz,h))(y:wK P t=some z)(h3:tD P u=true)(q:h<=1024){s x:ae}:Hv P st [t,u] s x=iG st sz s x:=by unfold Hv iG;grind
theorem JB{o:Oper}{c:CO}(h:iS P (um pf.take o.dst) o.type o.op=some c):eO P pf gl Z7 T st o=aN P gl Z7 T st o.dst c:=by
 obtain⟨dst,op,ty,pos,ag,gd⟩:=o;simp only at h;generalize q:um pf.take dst=tk at h;have mv:∀x,A3 P tk ty x=some c->(match eC gl T x with|some v=>some (wI P tk ty v)|none=>none)=(aN P gl Z7 T st dst c).map (·.v)/\∀v,eC gl T x=some v->aN P gl Z7 T st dst c=some ⟨wI P tk ty v,(cond tk (jB x) []),st,.pure⟩:=by intro x hx;unfold A3 at hx;grind[gJ,aN,oB,wI,auj,Fy]
 cases op with
 |move x=>
  obtain⟨Y,m2⟩:=mv x h;simp only[eO,dj,lG,lh,q];cases hx:eC gl T x
  .rw[hx]at Y;cases J:aN P gl Z7 T st dst c;.rfl
   rename_i r;rw[J]at Y;cases Y
  rename_i v;grind
 |assign x=>
  obtain⟨Y,m2⟩:=mv x h;simp only[eO,dj,lG,lh,q];cases hx:eC gl T x
  .rw[hx]at Y;cases J:aN P gl Z7 T st dst c;.rfl
   rename_i r;rw[J]at Y;cases Y
  rename_i v;grind
 |pick c0 a0 b0=>
  simp only[iS]at h;split at h
  .rename_i a b c' A D J;cases h;simp only[eO,dj,lG,lh,q,gJ A,gJ D,gJ J,aN];cases bh gl T a;.rfl
   rename_i a;cases bh gl T b;.rfl
   rename_i b;cases bh gl T c';.rfl
   rename_i c';simp only[oB];cases yY a b c'<;>rfl
  cases h
 |build t ps=>
  simp only[iS]at h;split at h
  .rename_i l z pl K N;obtain⟨e1,e2⟩:=P1 (gl:=gl) (T:=T) K;cases tk;.cases h;simp only[eO,dj,lG,lh,q,e1,BU,N,aN];grind[oB]
   simp only at h;split at h;.rename_i hn;cases h;rw[e2]at hn;simp only[eO,dj,lG,lh,q,e1,hn,BU,N,aN,e2];grind[oB]
   cases h
  cases h
 |nilCheck x=>
  simp only[iS]at h;split at h
  .rename_i a A;cases h;simp only[eO,dj,lG,lh,q,gJ A,aN];cases bh gl T a;.rfl
   rename_i v;simp only[oB];cases wR v<;>rfl
  cases h
 |binOp op t x y ad=>
  simp only[iS]at h;split at h
  .rename_i a b A D;cases h;simp only[eO,dj,lG,lh,q,gJ A,gJ D,aN];cases bh gl T a;.rfl
   rename_i a;cases bh gl T b;.rfl
   rename_i b;simp only[oB];cases dn P _ _ a b<;>rfl
  cases h
 |unOp op ad x=>
  simp only[iS]at h;split at h
  .rename_i a A;cases h;simp only[eO,dj,lG,lh,q,gJ A,aN];cases bh gl T a;.rfl
   rename_i v;simp only[oB];cases vg _ v<;>rfl
  cases h
 |convert s d x=>
  simp only[iS]at h;split at h
  .rename_i a d1 k A hs hd;cases h;simp only[eO,dj,lG,lh,q,gJ A,aN];cases bh gl T a;.rfl
   rename_i v;simp only[oB];unfold Ly;cases v with
   |sc x=>
    simp only[rj,rh,hs,hd];cases x<;>rfl
   |agg cs=>
    simp only[rj];cases sB cs<;>simp only[rh,hs,hd]
   |_=>rfl
  cases h
 |makeFunc fn first cap=>
  cases fn with
  |func f=>
   obtain⟨first⟩:=first
   cases first
   .simp only[iS]at h;split at h;.rename_i b D;cases h;simp only[eO,dj,lG,lh,q,SN D,aN];cases py gl T b<;>rfl
    cases h
   cases h
  |_=>cases h
 |fieldAddr s x f=>
  simp only[iS]at h;split at h
  .rename_i a o A ho;cases h;simp only[eO,dj,lG,lh,q,gJ A,aN];cases bh gl T a;.rfl
   rename_i v;simp only[oB,al1 ho];cases zz o v<;>rfl
  cases h
 |indexAddr t x ix=>
  simp only[iS]at h;split at h
  .rename_i a b A D;cases h;simp only[eO,dj,lG,lh,q,gJ A,gJ D,aN];cases bh gl T a;.rfl
   rename_i a;cases bh gl T b;.rfl
   rename_i b;simp only[oB,anK];cases mP (zQ P _) (Ae P _) a b<;>rfl
  cases h
 |index t x ix=>
  simp only[iS]at h;split at h
  .rename_i a b A D;cases h;simp only[eO,dj,lG,lh,q,gJ A,gJ D,aN];cases bh gl T a;.rfl
   rename_i a;cases bh gl T b;.rfl
   rename_i b;simp only[oB];cases CU P _ a b<;>rfl
  cases h
 |extract x i=>
  simp only[iS]at h;split at h
  .rename_i a A;cases h;simp only[eO,dj,lG,lh,q,gJ A,aN];cases bh gl T a;.rfl
   rename_i v;simp only[oB];cases sd _ v<;>rfl
  cases h
 |load t a=>
  simp only[iS]at h;grind[eO,dj,gJ,aN,oB,af4]
 |slice t x lo hi mx=>
  cases mx
  .simp only[iS]at h;split at h
   .rename_i a l hh A K hm;cases h;simp only[eO,dj,q,gJ A,afq K,afq hm,aN];cases bh gl T a;.rfl
    rename_i a;cases pZ gl T l;.rfl
    rename_i l;cases pZ gl T hh;.rfl
    rename_i hh;grind[oB,apX]
   cases h
  cases h
 |alloc t=>
  simp only[iS]at h;split at h
  .rename_i z hz;cases h;simp only[eO,dj,xO,q,hz,aN];cases dst;.rfl
   rename_i k;simp only[oB];cases gY T st k z.cells<;>rfl
  cases h
 |box t x=>
  simp only[iS]at h;split at h
  .rename_i a A;cases h;simp only[eO,dj,xO,q,gJ A,aN,Fy A];cases dst;.rfl
   rename_i k;simp only[oB];cases bh gl T a;.rfl
   rename_i v;simp only;cases v.fw;.cases tk<;>(simp only;cases gY T st k _<;>rfl)
   cases tk<;>rfl
  cases h
 |buildSlice t n ps=>
  simp only[iS]at h;split at h
  .rename_i l sz ac z K N hz;split at h
   .rename_i J;cases h;simp only[eO,dj,xO,q,(P1 (gl:=gl) (T:=T) K).1,N,hz,ao J,aN];cases lK gl T l;.rfl
    rename_i r;simp only[oB];rw[ao J];cases mM sz _ r<;>rfl
   cases h
  cases h
 |makeSlice t l c=>
  simp only[iS]at h;split at h
  .rename_i l c' sz ac z K af N hz;split at h
   .rename_i J;cases h;obtain⟨c1,c2,c3⟩:=J;subst c3;simp only[eO,dj,xO,q,gJ K,gJ af,N,hz,aN];cases dst;.rfl
    rename_i k;simp only[oB];cases bh gl T l;.rfl
    rename_i a;cases bh gl T c';.grind
    rename_i b;simp only;cases a with
    |sc a=>
     cases a with
     |int ka na=>
      cases ka<;>try rfl
      cases na with
      |negSucc _=>rfl
      |ofNat n=>
       cases b with
       |sc b=>
        cases b with
        |int kb nb=>
         cases kb<;>try rfl
         cases nb with
         |negSucc _=>rfl
         |ofNat m=>
          simp only;by_cases ab:n=m/\n<=1073741824;.rw[ao ⟨ab.1,ab.2,c1,c2,trivial⟩,ao ab];cases gY T st k (List.replicate n (z.map di)).flatten<;>rfl
          grind
        |_=>rfl
       |_=>rfl
     |_=>rfl
    |_=>rfl
   cases h
  cases h
 |store t a x=>
  simp only[iS]at h;split at h
  .rename_i p v m hp hv N;cases h;simp only[eO,dj,vq,q,gJ hp,gJ hv,Fy hv,aN];cases bh gl T p;.rfl
   rename_i a;cases bh gl T v;.rfl
   rename_i b;grind[oB,axU]
  cases h
 |call cc=>
  obtain⟨M,args,G⟩:=cc;cases M with
  |value f=>
   simp only[iS]at h;split at h;.rename_i f l hf K;cases h;simp only[eO,dj,vq,aN,wJ,Dt,gJ hf,SN K];rfl
   cases h
  |invoke r m=>cases h
  |builtin bi=>
   cases bi with
   |len=>
    obtain⟨args⟩:=args;obtain⟨G⟩:=G
    match args,G,h with
    |[x],t::ts,h=>
     simp only[iS]at h;split at h
     .rename_i a A;cases h;simp only[eO,dj,lG,lh,q,gJ A,aN];cases bh gl T a;.rfl
      rename_i v;simp only[oB,axR];cases yc P (tD P _) _ v<;>rfl
     cases h
    |[],_,h=>cases h
    |_::_::_,_,h=>cases h
    |[_],[],h=>cases h
   |min=>
    obtain⟨args⟩:=args
    match args,h with
    |[x,y],h=>
     simp only[iS]at h;split at h
     .rename_i a b A D;cases h;simp only[eO,dj,lG,lh,q,gJ A,gJ D,aN];cases bh gl T a;.rfl
      rename_i v;cases bh gl T b;.rfl
      rename_i w;simp only[oB];cases DM v w<;>rfl
     cases h
    |[],h=>cases h
    |[_],h=>cases h
    |_::_::_::_,h=>cases h
   |max=>
    obtain⟨args⟩:=args
    match args,h with
    |[x,y],h=>
     simp only[iS]at h;split at h
     .rename_i a b A D;cases h;simp only[eO,dj,lG,lh,q,gJ A,gJ D,aN];cases bh gl T a;.rfl
      rename_i v;cases bh gl T b;.rfl
      rename_i w;simp only[oB];cases BJ v w<;>rfl
     cases h
    |[],h=>cases h
    |[_],h=>cases h
    |_::_::_::_,h=>cases h
   |append=>
    obtain⟨args⟩:=args;obtain⟨G⟩:=G
    match args,G,h with
    |[s,x],[t,u],h=>
     simp only[iS]at h;split at h
     .rename_i a b sz ac z A D N hz hu;split at h
      .rename_i J;cases h;simp only[eO,dj,vq,q,gJ A,gJ D,Fy A,aN];cases bh gl T a;.rfl
       rename_i a;cases bh gl T b;.rfl
       rename_i b;grind[oB,aoC]
      cases h
     cases h
    |[],_,h=>cases h
    |[_],_,h=>cases h
    |_::_::_::_,_,h=>cases h
    |[_,_],[],h=>cases h
    |[_,_],[_],h=>cases h
    |[_,_],_::_::_::_,h=>cases h
   |_=>cases h
 |_=>cases h
end
section
variable{a b:CC}{aops:Array Oper}{l:List CE}{o:Option (List Nat×List Nat)}{r:bZ}
variable{P:Program}{gl:aM}{T:VT}{st:aq}{Z7:cI}{n:Nat}
theorem Rh{o:Oper}{g:Option (Tmp×Bool)}(h:Rt Z8 o.guard=some g):(match uq Z8 T o,uE Z8 T o with|true,w=>some w|false,_=>none)=oT T g:=by
 unfold uq uE;unfold Rt at h;split at h;.rename_i e;cases h;rw[e];rfl
 rename_i j b e;rw[e];split at h;.grind[oT]
 cases h
theorem R9:∀{l:List Oper} {c:List CE} {T:VT} {st:aq},zq P pf.take Z8 l=some c->uT P pf gl Z7 n Z8 l T st=mJ P gl Z7 n c T st
 |[],c,T,st,h=>by cases h;rfl
 |o::l,c,T,st,h=>by
  simp only[zq]at h;split at h
  .rename_i g G r A D y;cases h;have q:=Rh (T:=T) A;simp only[uT,mJ,<-q,JB D];cases uq Z8 T o;.rfl
   cases uE Z8 T o;.exact R9 y
   simp only;cases aN P gl Z7 T st o.dst G;.rfl
   rename_i x;exact R9 y
  cases h
theorem L4(m i:Nat):(bits m).elem i=tb m i:=by
 unfold bits;cases h:tb m i;.simp_all
 have q:i<m.log2+1:=by
  rcases rK i (m.log2+1)with k|k
  .exact k
  rw[M4]at h;have:m<2^i:=dF Nat.lt_log2_self (Vv (by omega) k);grind[Nat.testBit_lt_two_pow]
 simp_all
theorem Ln(Z8:Array Oper)(i:Nat):(zB Z8).getD i []=bits (cO Z8 i):=by
 unfold zB cO;rw[kW,pJ,bM,Vk];cases (Region.before Z8)[i]?
 .show[]=bits 0;cases e:bits 0;.rfl
  rename_i a l;have h:=L4 0 a;grind[M4]
 rename_i m;rfl
theorem ad6(m:Nat):∀l:List Nat,qJ m l=Bp (bits m) l
 |[]=>rfl
 |a::l=>by show Bool.rec (motive:=λ _=>Bool) false (qJ m l) (tb m a)=((bits m).elem a&&Bp (bits m) l);rw[L4,ad6 m l];cases tb m a<;>rfl
theorem afr:uA m i Z e=kT (bits m) i Z e:=by unfold uA kT;grind[ad6]
theorem Qs:∀{l:List Oper} {c:List CE} {i:Nat} {Z:cR} {T:VT} {st:aq},zq P pf.take Z8 l=some c->pB P pf gl Z7 n Z8 (cO aops) l i Z T st=jP P gl Z7 n (zB aops) c i Z T st
 |[],c,i,Z,T,st,h=>by cases h;rfl
 |o::l,c,i,Z,T,st,h=>by
  simp only[zq]at h;split at h
  .rename_i g G r A D y;cases h;have q:=Rh (T:=T) A;simp only[pB,jP,<-q,JB D,Ln,<-afr];cases uq Z8 T o;.rfl
   cases uE Z8 T o;.exact Qs y
   simp only;cases aN P gl Z7 T st o.dst G;.rfl
   rename_i x;simp only;cases uA (cO aops i) i Z x.e;.rfl
   rename_i J;exact Qs y
  cases h
theorem ayb {ty : TypeId} {o : Op} {c : CO} (h : iS P tk ty o = some c) : iS P false ty o = some (sn c) := by
  have mv : ∀ x, A3 P tk ty x = some c → A3 P false ty x = some (sn c) := by
    intro x q
    unfold A3 at q ⊢
    split at q
    · cases tk <;> (cases q; rfl)
    · cases q
  unfold iS at h ⊢
  split at h
  · exact mv _ h
  · exact mv _ h
  all_goals first
    | (cases h; done)
    | (split at h
       · first
         | (cases h; simp only [*, sn]; done)
         | (split at h
            · first
              | (cases h; simp only [*, sn]; done)
              | (cases h; rename_i y; rw [ao y]; rfl)
              | grind [sn]
            · first
              | (cases h; done)
              | grind [sn])
       · cases h)
theorem O6{pf:eV}{aK:aq}:∀{l:List Oper} {c:List CE} {i:Nat} {Z:cR} {T U:VT} {st:aq},zq P pf.take Z8 l=some c->qd P pf gl Z7 n Z8 (cO aops) aK l i Z T U st=mF P gl Z7 n (zB aops) aK c i Z T U st
 |[],c,i,Z,T,U,st,h=>by cases h;rfl
 |o::l,c,i,Z,T,U,st,h=>by
  simp only[zq]at h;split at h
  .rename_i g y r J D A;cases h;have q:=Rh (T:=T) J;have G:eO P xl gl kF U aK o=aN P gl kF U aK o.dst (sn y):=JB (pf:=xl) (by rw[show um xl.take o.dst=false from YW _];exact ayb D);simp only[qd,mF,<-q,JB D,Ln,<-afr,G];cases uq Z8 T o;.rfl
   cases uE Z8 T o;.exact O6 A
   simp only;cases aN P gl Z7 T st o.dst y;.rfl
   rename_i x;simp only;cases u9 Z (uA (cO aops i) i Z x.e) (mg Z.es x.e (aN P gl kF U aK o.dst (sn y)));.rfl
   rename_i K;exact O6 A
  cases h
def YS{Z8:Array Oper}{ok:Nat->Bool}:∀{es:List (Nat×fq)} {up:Option Nat},tc (cO Z8) j ok es up=lH (zB Z8) j ok es up
 |[],up=>by simp only[tc,lH,Ln,L4];cases up<;>rfl
 |e::es,up=>by simp only[tc,lH,Ln,L4,YS (es:=es)];cases up<;>rfl
def VH{Z8:Array Oper}{es:List (Nat×fq)}:∀{rs:List (Nat×Option (Nat×Nat)×Nat)},NH (cO Z8) es rs=vu (zB Z8) es rs
 |[]=>rfl
 |r::rs=>by have:=VH (Z8:=Z8) (es:=es) (rs:=rs);unfold NH at this⊢;rw[ug,this,YS];rfl
theorem Us{l:List (Nat×List Nat×List Nat)}{id:Nat}{T:VT}{st:aq}:tm l id T st=me (lk l id) T st:=rfl
theorem awQ:∀(c:Code) {q:CC},lU P pf c=some q->∀(m:Nat) (T:VT) (st:aq),eN P pf gl Z7 n m c T st=eZ P gl Z7 n m q T st:=by
 intro c;induction c with
 |skip=>intro q h m T st;cases h;cases m<;>rfl
 |exit id=>intro q h m T st;cases h;cases m<;>rfl
 |ret=>intro q h m T st;cases h;cases m<;>rfl
 |region id Z8 d=>
  intro q h m T st;simp only[lU]at h;split at h
  .rename_i l hl;cases m;.cases d<;>(cases h;rfl)
   rename_i m;cases d;.grind[eN,eZ,ym,R9,Us]
   cases h;have hd:∀x,qY Z8 x=tQ (zB Z8) x:=by intro x;unfold qY tQ;simp only[VH];rfl
   grind[eN,eZ,ym,uf,Qs,O6,Us]
  cases h
 |seq a b A D=>
  intro q h m T st;simp only[lU]at h;split at h
  .rename_i x y G K;cases h;cases m;.rfl
   rename_i m;grind[eN,eZ]
  cases h
 |cond x a b A D=>
  intro q h m T st;simp only[lU]at h;split at h
  .rename_i N y z M K Y;cases h;cases m;.rfl
   rename_i m;grind[eN,eZ,gJ]
  cases h
 |block id a A=>
  intro q h m T st;simp only[lU]at h;split at h
  .rename_i x G;cases h;cases m;.rfl
   rename_i m;grind[eN,eZ]
  cases h
 |loop a A=>
  intro q h m T st;simp only[lU]at h;split at h
  .rename_i x G;cases h;induction m generalizing T st with
   |zero=>rfl
   |succ m J=>grind[eN,eZ,Us]
  cases h
 |rangeFunc _ _ _ _=>intro q h;cases h
 |scope _=>intro q h;cases h
 |label _=>intro q h;cases h
 |goto _=>intro q h;cases h
 |refuse _=>intro q h;cases h
def aJ(P:Program)(gl:aM)(Z7:cI)(n:Nat)(c:CC)(T:VT)(st:aq):Option bZ:=open Classical in if h:∃r m,eZ P gl Z7 n m c T st=some r then some (Classical.choose h)else none
theorem avN:∀(m:Nat) (c:CC) (T:VT) (st:aq) (r:bZ),eZ P gl Z7 n m c T st=some r->eZ P gl Z7 n (m+1) c T st=some r:=by
 intro m;induction m with
 |zero=>intro c T st r h;cases h
 |succ m q=>
  intro c T st r h;cases c with
  |skip=>exact h
  |exit id=>exact h
  |ret=>exact h
  |ak l o=>exact h
  |dK l b o=>exact h
  |seq a b=>grind[eZ]
  |cond x a b=>grind[eZ]
  |block id a=>grind[eZ]
  |loop o a=>grind[eZ]
theorem Mw(q:m<=k){c:CC}(h:eZ P gl Z7 n m c T st=some r):eZ P gl Z7 n k c T st=some r:=by
 obtain⟨d,rfl⟩:=ait q;clear q;induction d with
 |zero=>exact h
 |succ d y=>exact avN _ _ _ _ _ y
theorem fN{c:CC}:aJ P gl Z7 n c T st=some r↔∃m,eZ P gl Z7 n m c T st=some r:=by
 unfold aJ;constructor
 .intro h;split at h;.grind
  cases h
 rintro⟨m,h⟩
 have q:∃r m,eZ P gl Z7 n m c T st=some r:=⟨r,m,h⟩;rw[xB q];obtain⟨k,y⟩:=ui q;have a:=Mw (BE m k) h;grind[Mw,Nat.le_max_right]
def JI{c:Code}{q:CC}(h:lU P pf c=some q):xJ P pf gl Z7 n c T st=aJ P gl Z7 n q T st:=by
 refine A4 λ r=>?_
 rw[FF,fN];simp only[awQ c h]
def VM:aJ P gl Z7 n .skip T st=some (.normal,T,st):=fN.2 ⟨1,rfl⟩
def ZB:aJ P gl Z7 n .ret T st=some (.ret,T,st):=fN.2 ⟨1,rfl⟩
def adV{id:Nat}:aJ P gl Z7 n (.exit id) T st=some (.exit id,T,st):=fN.2 ⟨1,rfl⟩
def Pr(o:Option (List Nat×List Nat)):Option (VT×aq)->Option bZ
 |some (T,st)=>some (.normal,me o T st)
 |none=>none
def Yw:aJ P gl Z7 n (.ak l o) T st=Pr o (mJ P gl Z7 n l T st):=by
 refine A4 λ r=>⟨λ h=>?_,λ h=>fN.2 ⟨1,?_⟩⟩
 .obtain⟨m,q⟩:=fN.1 h;cases m;.cases q
  rename_i m;rw[eZ]at q;exact q
 rw[eZ];exact h
def Lf{b:List (List Nat)}:aJ P gl Z7 n (.dK l b o) T st=Pr o (uf P gl Z7 n l b T st):=by
 refine A4 λ r=>⟨λ h=>?_,λ h=>fN.2 ⟨1,?_⟩⟩
 .obtain⟨m,q⟩:=fN.1 h;cases m;.cases q
  rename_i m;rw[eZ]at q;exact q
 rw[eZ];exact h
theorem wg:aJ P gl Z7 n (.seq a b) T st=mY (aJ P gl Z7 n b) (aJ P gl Z7 n a T st):=by
 refine A4 λ r=>⟨λ h=>?_,λ h=>?_⟩
 .obtain⟨m,q⟩:=fN.1 h;cases m;.cases q
  rename_i m;rw[eZ]at q;split at q;.rename_i A lf y;rw[fN.2 ⟨m,y⟩];exact fN.2 ⟨m,q⟩
  rename_i D;rw[fN.2 ⟨m,q⟩];obtain⟨e,A,lf⟩:=r;cases e with
  |normal=>simp_all
  |exit id=>rfl
  |ret=>rfl
 cases y:aJ P gl Z7 n a T st;.rw[y]at h;cases h
 rename_i s;rw[y]at h;obtain⟨m,q⟩:=fN.1 y;obtain⟨e,A,lf⟩:=s;cases e with
 |normal=>
  obtain⟨k,G⟩:=fN.1 (show aJ P gl Z7 n b A lf=some r from h);refine fN.2 ⟨max m k+1,?_⟩;grind[eZ,Mw,Nat.le_max_right]
 |exit id=>
  cases h;exact fN.2 ⟨m+1,by rw[eZ,q]⟩
 |ret=>
  cases h;exact fN.2 ⟨m+1,by rw[eZ,q]⟩
def UO{x:bu}:aJ P gl Z7 n (.cond x a b) T st=Iw (aJ P gl Z7 n a T st) (aJ P gl Z7 n b T st) (bh gl T x):=by
 refine A4 λ r=>⟨λ h=>?_,λ h=>?_⟩
 .obtain⟨m,q⟩:=fN.1 h;cases m;.cases q
  rename_i m;rw[eZ]at q;split at q;.rename_i y;rw[y];exact fN.2 ⟨m,q⟩
  .rename_i y;rw[y];exact fN.2 ⟨m,q⟩
  cases q
 unfold Iw at h;split at h;.rename_i y;obtain⟨m,q⟩:=fN.1 h;exact fN.2 ⟨m+1,by rw[eZ,y];exact q⟩
 .rename_i y;obtain⟨m,q⟩:=fN.1 h;exact fN.2 ⟨m+1,by rw[eZ,y];exact q⟩
 cases h
theorem La{id:Nat}:aJ P gl Z7 n (.block id a) T st=Kr id (aJ P gl Z7 n a T st):=by
 refine A4 λ r=>⟨λ h=>?_,λ h=>?_⟩
 .obtain⟨m,q⟩:=fN.1 h;cases m;.cases q
  rename_i m;rw[eZ]at q;split at q;.rename_i j A lf y;rw[fN.2 ⟨m,y⟩];exact q
  rename_i D;rw[fN.2 ⟨m,q⟩];obtain⟨e,A,lf⟩:=r;cases e with
  |exit j=>simp_all
  |normal=>rfl
  |ret=>rfl
 cases y:aJ P gl Z7 n a T st;.rw[y]at h;cases h
 rename_i s;rw[y]at h;obtain⟨m,q⟩:=fN.1 y;refine fN.2 ⟨m+1,?_⟩;rw[eZ,q];obtain⟨e,A,lf⟩:=s;cases e with
 |exit j=>exact h
 |normal=>exact h
 |ret=>exact h
theorem iw:aJ P gl Z7 n (.loop o a) T st=mY (aJ P gl Z7 n (.loop o a)) (aJ P gl Z7 n a (me o T st).1 (me o T st).2):=by
 refine A4 λ r=>⟨λ h=>?_,λ h=>?_⟩
 .obtain⟨m,q⟩:=fN.1 h;cases m;.cases q
  rename_i m;rw[eZ]at q;split at q;.rename_i A lf y;rw[fN.2 ⟨m,y⟩];exact fN.2 ⟨m,q⟩
  rename_i D;rw[fN.2 ⟨m,q⟩];obtain⟨e,A,lf⟩:=r;cases e with
  |normal=>simp_all
  |exit id=>rfl
  |ret=>rfl
 cases y:aJ P gl Z7 n a (me o T st).1 (me o T st).2;.rw[y]at h;cases h
 rename_i s;rw[y]at h;obtain⟨m,q⟩:=fN.1 y;obtain⟨e,A,lf⟩:=s;cases e with
 |normal=>
  obtain⟨k,G⟩:=fN.1 (show aJ P gl Z7 n (.loop o a) A lf=some r from h);refine fN.2 ⟨max m k+1,?_⟩;grind[eZ,Mw,Nat.le_max_right]
 |exit id=>
  cases h;exact fN.2 ⟨m+1,by rw[eZ,q]⟩
 |ret=>
  cases h;exact fN.2 ⟨m+1,by rw[eZ,q]⟩
inductive CR where
 |t (i:Nat)
 |c (a:Nat) (agg:Bool) (n:Nat)
def ud(P:Program):List ResultVar->Option (List CR)
 |[]=>some []
 |.tmp t::rs=>match ud P rs with|some l=>some (.t t::l)|none=>none
 |.cell a t::rs=>match Dv P t,ud P rs with|some (agg,n),some l=>some (.c a agg (cond agg n 1)::l)|_,_=>none
def jC(st:aq)(T:VT):List CR->Option (List ae)
 |[]=>some []
 |.t t::rs=>match jC st T rs with|some l=>some (jK T t::l)|none=>none
 |.c a agg n::rs=>match qk false agg n st (jK T a),jC st T rs with|some (v,_,_),some l=>some (v::l)|_,_=>none
theorem Hd:∀{rs:List ResultVar} {l:List CR},ud P rs=some l->tV P st T rs=jC st T l
 |[],l,h=>by cases h;rfl
 |.tmp t::rs,l,h=>by
  simp only[ud]at h;split at h;.rename_i l' q;cases h;simp only[tV,jC,Hd q];rfl
  cases h
 |.cell a t::rs,l,h=>by
  simp only[ud]at h;split at h;.rename_i agg m l' y q;cases h;simp only[tV,jC,Hd q,af4 y];rfl
  cases h
def mW(rs:List CR):Option bZ->Option (ae×List bI×Bool)
 |some (.exit _,_,_)=>none
 |some (_,T,st)=>match jC st T rs with
  |some l=>some (lD l,st.up,st.w)
  |none=>none
 |none=>none
structure cZ where
 c:CC
 n:Nat
 r:List CR
def db(P:Program)(pf:eV)(f:FuncId):Option cZ:=
 match P.funcs[f]?with
 |some fn=>match fn.body with
  |some c=>match lU P pf c,ud P fn.results.toList with
   |some h,some rs=>some ⟨h,fn.ntmps,rs⟩
   |_,_=>none
  |none=>none
 |none=>none
variable{pol:FuncId->eV}{bset:FuncId->Bool}{base:eH}
def bz(P:Program)(gl:aM)(Z7:cI)(F:cZ)(args:List ae)(S:List bI):Option (ae×List bI×Bool):=mW F.r (aJ P gl Z7 (args.length+(F.n-args.length)) F.c (lM 0 args) (aH [] S))
theorem Sc{rs:List ResultVar}{l:List CR}(h:ud P rs=some l){s:Option bZ}:Af P rs s=mW l s:=by
 cases s with
 |none=>rfl
 |some s=>
  obtain⟨e,T,st⟩:=s;cases e with
  |exit id=>rfl
  |normal=>grind[Af,mW,Hd]
  |ret=>grind[Af,mW,Hd]
theorem WW{f:FuncId}{F:cZ}(h:db P pf f=some F):∃fn c,P.funcs[f]? =some fn/\fn.body=some c/\lU P pf c=some F.c/\fn.ntmps=F.n/\ud P fn.results.toList=some F.r:=by grind[db]
def jG{f:FuncId}{F:cZ}{r:ae×List bI×Bool}(A:db P (pol f) f=some F)(y:bset f=false)(q:args.any ae.open=true)
 (h:bz P gl (vω P pol gl bset base) F args S=some r):vω P pol gl bset base f args S=some r:=by
 obtain⟨fn,c,K,J,h3,G,D⟩:=WW A;refine amz K J y ?_ q;rw[JI h3,G,Sc D];exact h
def iU{f:FuncId}{F:cZ}{S':List bI}{w:Bool}(A:db P (pol f) f=some F)(y:bset f=false)(q:args.any ae.open=false)
 (h:bz P gl (vω P pol gl bset base) F args []=some (v,S',w)):vω P pol gl bset base f args S=some (v,S,false):=by
 obtain⟨fn,c,K,J,h3,G,D⟩:=WW A;refine azT (S':=S') (w:=w) K J y ?_ q;rw[JI h3,G,Sc D];exact h
end
section
variable{ar:Option (Nat×Nat)}{d' k':Nat}{op:BinOp}{r:List (Nat×α)}{rs:List CR}{y:ae}{β:Type}
variable{P:Program}{gl:aM}{Z7:cI}{n:Nat}{T:VT}{st:aq}
abbrev eI(n:Int):ae:=.sc (.int .i64 n)
abbrev eB(b:Bool):ae:=.sc (.bool b)
def BX{k:VT->aq->Option bZ}:mY k (some (.normal,T,st))=k T st:=rfl
def al7{k:VT->aq->Option bZ}{id:Nat}:mY k (some (.exit id,T,st))=some (.exit id,T,st):=rfl
def aAG{k:VT->aq->Option bZ}:mY k (some (.ret,T,st))=some (.ret,T,st):=rfl
def ayR{a b:Option bZ}:Iw a b (some (eB true))=a:=rfl
def ann{a b:Option bZ}:Iw a b (some (eB false))=b:=rfl
theorem aaU{id:Nat}:Kr id (some (.exit j,T,st))=if j=id then some (.normal,T,st)else some (.exit j,T,st):=rfl
def awc{id:Nat}:Kr id (some (.normal,T,st))=some (.normal,T,st):=rfl
def aqD{id:Nat}:Kr id (some (.ret,T,st))=some (.ret,T,st):=rfl
def aA8{o:Option (List Nat×List Nat)}:Pr o (some (T,st))=some (.normal,me o T st):=rfl
def aq0{a b:List Nat}:me (some (a,b)) T st=(lp a T,{st with cur:=lp b st.cur}):=rfl
def ara:me none T st=(T,st):=rfl
def kC{α:Type}(i:Nat)(x:Option α)(r:List (Nat×α)):List (Nat×α):=match x with|some v=>(i,v)::r|none=>r
def arA{v:α}:kC i (some v) r=(i,v)::r:=rfl
def aoT:kC i (none:Option α) r=r:=rfl
def azQ{T:List (Nat×α)}:lp [] T=[]:=rfl
def RS{l:List Nat}{T:List (Nat×α)}:lp (i::l) T=kC i (lk T i) (lp l T):=by simp only[lp,List.filterMap_cons];cases lk T i<;>rfl
def tG:Option ae->ae
 |some v=>v
 |none=>.aL []
def ax9:tG (some v)=v:=rfl
def anU:tG none=.aL []:=rfl
def av1:jK T i=tG (lk T i):=by unfold jK;cases lk T i<;>rfl
def alH:da n T (some d) v=if d<n then(d,v)::T else T:=rfl
def as2:da n T none v=T:=rfl
def sC(t:Nat)(T:VT):Option ae->VT
 |some v=>(t,bD v)::T
 |none=>T
def asK{t:Nat}:sC t T (some v)=(t,bD v)::T:=rfl
def aqT{t:Nat}:sC t T none=T:=rfl
def akJ:gZ [] T=T:=rfl
def aon{t:Nat}{l:List Tmp}:gZ (t::l) T=gZ l (sC t T (lk T t)):=by simp only[gZ];cases lk T t<;>rfl
def KJ(P:Program)(gl:aM)(Z7:cI)(n:Nat)(l:List CE):Option (VT×aq)->Option (VT×aq)
 |some (T,st)=>mJ P gl Z7 n l T st
 |none=>none
def apB{l:List CE}:KJ P gl Z7 n l (some (T,st))=mJ P gl Z7 n l T st:=rfl
def Fk(n:Nat)(T:VT)(d:Option Tmp):Option VR->Option (VT×aq)
 |some r=>some (da n (gZ r.src T) d r.v,r.st)
 |none=>none
def ars{d:Option Tmp}:Fk n T d (some ⟨v,src,st,e⟩)=some (da n (gZ src T) d v,st):=rfl
def cQ(n:Nat)(T:VT)(st:aq)(d:Nat)(b:Bool)(r:Option VR):ae->Option (VT×aq)
 |.sc (.bool h)=>if h=b then Fk n T (some d) r else some (da n T (some d) .un,st)
 |.un=>some (da n T (some d) .un,st)
 |_=>none
def alC{b h:Bool}{r:Option VR}:cQ n T st d b r (eB h)=if h=b then Fk n T (some d) r else some (da n T (some d) .un,st):=rfl
def ajQ:mJ P gl Z7 n [] T st=some (T,st):=rfl
def aAj{c:CO}{l:List CE}:mJ P gl Z7 n (O d c::l) T st=KJ P gl Z7 n l (Fk n T (some d) (aN P gl Z7 T st (some d) c)):=by simp only[mJ,oT];cases aN P gl Z7 T st (some d) c<;>rfl
def ajB{c:CO}{l:List CE}:mJ P gl Z7 n (E c::l) T st=KJ P gl Z7 n l (Fk n T none (aN P gl Z7 T st none c)):=by simp only[mJ,oT];cases aN P gl Z7 T st none c<;>rfl
def arO{t:Nat}{b:Bool}{c:CO}{l:List CE}:mJ P gl Z7 n (Q d t b c::l) T st=KJ P gl Z7 n l (cQ n T st d b (aN P gl Z7 T st (some d) c) (jK T t)):=by
 simp only[mJ,oT];cases jK T t with
 |sc a=>
  cases a with
  |bool h=>
   simp only[cQ];cases h<;>cases b<;>simp<;>first|rfl|(cases aN P gl Z7 T st (some d) c<;>rfl)
  |_=>rfl
 |_=>rfl
def avF:bh gl T (.t i)=some (jK T i):=rfl
def ajj{k:Int}:bh gl T (.i k)=some (eI k):=rfl
def axs{k:Bool}:bh gl T (.b k)=some (eB k):=rfl
def ayg{k:ae}:bh gl T (.v k)=some k:=rfl
def aom:bh gl T (.f k)=some (.fn k []):=rfl
def cC{α:Type}:Option α->Option (List α)->Option (List α)
 |some a,some r=>some (a::r)
 |_,_=>none
def apq{a:α}{r:List α}:cC (some a) (some r)=some (a::r):=rfl
def amD:py gl T []=some []:=rfl
def awK{x:bu}{l:List bu}:py gl T (x::l)=cC (bh gl T x) (py gl T l):=by simp only[py];cases bh gl T x<;>cases py gl T l<;>rfl
def cCp(i:Nat):Option ae->Option (List (Nat×ae))->Option (List (Nat×ae))
 |some a,some r=>some ((i,a)::r)
 |_,_=>none
def ak7{a:ae}{r:List (Nat×ae)}:cCp i (some a) (some r)=some ((i,a)::r):=rfl
def ayf:lK gl T []=some []:=rfl
def amP{x:bu}{l:List (Nat×bu)}:lK gl T ((i,x)::l)=cCp i (bh gl T x) (lK gl T l):=by simp only[lK];cases bh gl T x<;>cases lK gl T l<;>rfl
def apv:pZ gl T none=some none:=rfl
def oS{α:Type}:Option α->Option (Option α)
 |some a=>some (some a)
 |none=>none
def apV{a:α}:oS (some a)=some (some a):=rfl
def apa{x:bu}:pZ gl T (some x)=oS (bh gl T x):=by simp only[pZ];cases bh gl T x<;>rfl
def au5{a:α}{f:α->Option β}:oB (some a) f=f a:=rfl
def aqM{f:α->Option β}:oB none f=none:=rfl
def aks:cP st src (some v)=some ⟨v,src,st,.pure⟩:=rfl
def amx:bD (.sc a)=.sc a:=rfl
def axm{o:Option Nat}:bD (.sl es o)=.sl es none:=rfl
def an0:bD (.ptr d k o)=.ptr d k o:=rfl
def amO:bD (.rp cs o)=.rp cs o:=rfl
def aiT{z:Nat}:bD (.ms d k o z)=.ms d k o z:=rfl
def aww{f:Nat}:bD (.fn f cs)=.fn f cs:=rfl
def axP:bD (.aL cs)=.aL cs:=rfl
def arT:bD (.agg cs)=.agg (cs.map di):=rfl
def aji:di (.sc a)=.sc a:=rfl
def anW{o:Option Nat}:di (.sl es o)=.sl es none:=rfl
def aA6:di (.ptr d k o)=.ptr d k o:=rfl
def amg{f:Nat}:di (.fn f cs)=.fn f cs:=rfl
def aA4{z:Nat}:di (.ms d k o z)=.ms d k o z:=rfl
def ajA{z:Nat}:sR z (.sc a)=.sc a:=rfl
def aqh{z:Nat}:sR z (.sl [] (some 0))=.sl [] (some z):=rfl
def aeV{z:Nat}:sR z (.sl es none)=.sl es none:=by cases es<;>rfl
def adu{z:Nat}:sR z (.sl es (some (k+1)))=.sl es (some (k+1)):=by cases es<;>rfl
def asS{z:Nat}{e:List ae}{o:Option Nat}:sR z (.sl (e::es) o)=.sl (e::es) o:=rfl
def aul{z:Nat}:sR z (.ptr d k o)=.ptr d k o:=rfl
def avI{z:Nat}:sR z (.agg cs)=.agg cs:=rfl
def azi:(ae.agg cs).cells=cs:=rfl
def aw0:(ae.sc a).cells=[.sc a]:=rfl
def aqx{o:Option Nat}:(ae.sl es o).cells=[.sl es o]:=rfl
def aAQ:(ae.ptr d k o).cells=[.ptr d k o]:=rfl
def atn{f:Nat}:(ae.fn f cs).cells=[.fn f cs]:=rfl
def amt{z:Nat}:(ae.ms d k o z).cells=[.ms d k o z]:=rfl
def asu{f:Nat}:zz o (.ptr d k f)=some (.ptr d k (f+o)):=rfl
def arb{f:Nat}:zz o (.rp cs f)=some (.rp cs (f+o)):=rfl
def aq3{f:Nat}:wR (.ptr d k f)=some (.ptr d k f):=rfl
def am6{f:Nat}:wR (.rp cs f)=some (.rp cs f):=rfl
def al5{x:ae}:yY (eB true) x y=some (bD x):=rfl
def aoo{x:ae}:yY (eB false) x y=some (bD y):=rfl
def awF{t:Nat}{o:Option Nat}:yc P true t (.sl es o)=some (eI es.length):=rfl
def axM{t l z:Nat}:yc P true t (.ms d k l z)=some (eI l):=rfl
def aY{o:Option Nat}{kd:IntKind}{e:List ae}(h:es[i]? =some e)(q:e.length=sz):mP (some sz) ar (.sl es o) (.sc (.int kd (i:Int)))=some (.rp e 0):=by show(match(some sz:Option Nat),es[i]?with|some sz,some e=>if e.length=sz then some (ae.rp e 0)else none|_,_=>none)=_;simp_all
def asd:jt false m cs off=cs[off]? :=rfl
def nw{k k':IntKind}{a:Int}:dn P op t (.sc (.int k a)) (.sc (.int k' b))=match cV P op t (.int k a) (.int k' b)with|some r=>kx r|none=>none:=rfl
def XE{k:IntKind}{a:Int}:dn P .lss t (.sc (.int k a)) (.sc (.int k b))=some (eB (decide (a<b))):=by rw[nw,ZM];rfl
def afy{k:IntKind}{a:Int}:dn P .leq t (.sc (.int k a)) (.sc (.int k b))=some (eB (decide (a<=b))):=by rw[nw,aaG];rfl
def adB{k:IntKind}{a:Int}:dn P .gtr t (.sc (.int k a)) (.sc (.int k b))=some (eB (decide (a>b))):=by rw[nw,VV];rfl
def XW{k:IntKind}{a:Int}:dn P .geq t (.sc (.int k a)) (.sc (.int k b))=some (eB (decide (a>=b))):=by rw[nw,ahA];rfl
def Xt{k:IntKind}{a:Int}:dn P .eql t (.sc (.int k a)) (.sc (.int k b))=some (eB (decide (a=b))):=by rw[nw,VX];rfl
def TU{k:IntKind}{a:Int}:dn P .neq t (.sc (.int k a)) (.sc (.int k b))=some (eB (!decide (a=b))):=by rw[nw,agW];rfl
def Fg{a:Int}(h:iO (a+b)):dn P .add t (eI a) (eI b)=some (eI (a+b)):=by rw[nw,EW h];rfl
def as5{b:Bool}:vg .not (eB b)=some (eB (!b)):=rfl
def amV{d:Option Tmp}{x:bu}:aN P gl Z7 T st d (.mv x)=oB (bh gl T x) λ v=>some ⟨bD v,[],st,.pure⟩:=rfl
def anb{d:Option Tmp}{z:Nat}{x:bu}:aN P gl Z7 T st d (.tk z x)=oB (bh gl T x) λ v=>some ⟨sR z v,aB x,st,.pure⟩:=rfl
def avj{d:Option Tmp}{c a b:bu}:aN P gl Z7 T st d (.pk c a b)=oB (bh gl T c) λ c=>oB (bh gl T a) λ a=>oB (bh gl T b) λ b=>cP st [] (yY c a b):=rfl
def alI{d:Option Tmp}{x:bu}:aN P gl Z7 T st d (.nl x)=oB (bh gl T x) λ v=>cP st [] (wR v):=rfl
def aoJ{d:Option Tmp}{t:Nat}{x y:bu}:aN P gl Z7 T st d (.bn op t x y)=oB (bh gl T x) λ a=>oB (bh gl T y) λ b=>cP st [] (dn P op t a b):=rfl
def akf{d:Option Tmp}{op:UnOp}{x:bu}:aN P gl Z7 T st d (.un op x)=oB (bh gl T x) λ v=>cP st [] (vg op v):=rfl
def atL{d:Option Tmp}{f:Nat}{cap:List bu}:aN P gl Z7 T st d (.mf f cap)=oB (py gl T cap) λ l=>some ⟨.fn f (l.map bD),[],st,.pure⟩:=rfl
def alT{d:Option Tmp}{x:bu}:aN P gl Z7 T st d (.fa o x)=oB (bh gl T x) λ v=>cP st [] (zz o v):=rfl
def aj8{d:Option Tmp}{sl:Option Nat}{x ix:bu}:aN P gl Z7 T st d (.ia sl ar x ix)=oB (bh gl T x) λ a=>oB (bh gl T ix) λ i=>cP st [] (mP sl ar a i):=rfl
def axA{d:Option Tmp}{x:bu}:aN P gl Z7 T st d (.ex i x)=oB (bh gl T x) λ v=>cP st [] (sd i v):=rfl
def anQ{d:Option Tmp}{sl:Bool}{t:Nat}{x:bu}:aN P gl Z7 T st d (.ln sl t x)=oB (bh gl T x) λ v=>cP st [] (yc P sl t v):=rfl
def cRd:Option (ae×Option (Nat×Nat)×aq)->Option VR
 |some (v,b,st)=>some ⟨v,[],st,.read b⟩
 |none=>none
def anc{b:Option (Nat×Nat)}:cRd (some (v,b,st))=some ⟨v,[],st,.read b⟩:=rfl
def axO{d:Option Tmp}{agg:Bool}{x:bu}:aN P gl Z7 T st d (.ld tk agg m x)=oB (bh gl T x) λ a=>cRd (qk tk agg m st a):=by
 simp only[aN];cases bh gl T x;.rfl
 rename_i a;simp only[oB];cases qk tk agg m st a<;>rfl
def cRv(st:aq):Option ae->Option VR
 |some v=>some ⟨v,[],st,.read none⟩
 |none=>none
def axH:cRv st (some v)=some ⟨v,[],st,.read none⟩:=rfl
def aj1{d:Option Tmp}{sl:Option Nat}{str:Bool}{x:bu}{lo hi:Option bu}:aN P gl Z7 T st d (.sx sl str x lo hi)=oB (bh gl T x) λ a=>oB (pZ gl T lo) λ l=>oB (pZ gl T hi) λ h=>cRv st (nf sl str a l h):=by
 simp only[aN];cases bh gl T x;.rfl
 rename_i a;simp only[oB];cases pZ gl T lo;.rfl
 rename_i l;simp only;cases pZ gl T hi;.rfl
 rename_i h;simp only;cases nf sl str a l h<;>rfl
def yN(k:Nat)(v:ae)(src:List Tmp):Option aq->Option VR
 |some st=>some ⟨v,src,st,.new true⟩
 |none=>none
def aq8:yN k v src (some st)=some ⟨v,src,st,.new true⟩:=rfl
def atD{z:List ae}:aN P gl Z7 T st (some k) (.al z)=yN k (.ptr st.up.length k 0) [] (gY T st k z):=by simp only[aN,oB];cases gY T st k z<;>rfl
def Aj(T:VT)(st:aq)(k:Nat)(tk:Bool)(src:List Tmp)(v:ae):Option VR:=
 match v.fw with
 |true=>none
 |false=>yN k (.ptr st.up.length k 0) (cond tk src []) (gY T st k (cond tk v.cells (bD v).cells))
def aoq{x:bu}:aN P gl Z7 T st (some k) (.bx tk x)=oB (bh gl T x) λ v=>Aj T st k tk (aB x) v:=by
 simp only[aN,oB];cases bh gl T x;.rfl
 rename_i v;simp only[Aj];cases v.fw
 .simp only;cases tk;.simp only[Nt];cases gY T st k (bD v).cells<;>rfl
  simp only[Nx];cases gY T st k v.cells<;>rfl
 rfl
def cBs(sz:Nat)(st:aq):Option aS->Option VR
 |some es=>some ⟨.sl es (some sz),[],st,.new false⟩
 |none=>none
def auA:cBs sz st (some es)=some ⟨.sl es (some sz),[],st,.new false⟩:=rfl
def alM{d:Option Tmp}{z:List ae}{ps:List (Nat×bu)}:aN P gl Z7 T st d (.bs sz z m ps)=oB (lK gl T ps) λ l=>cBs sz st (mM sz (List.replicate m z) l):=by
 simp only[aN];cases lK gl T ps;.rfl
 rename_i l;simp only[oB];cases mM sz (List.replicate m z) l<;>rfl
def cSt(src:List Tmp):Option (aq×Nat×Nat)->Option VR
 |some (st,d,k)=>some ⟨.aL [],src,st,.eP (.box d k)⟩
 |none=>none
def azE:cSt src (some (st,d,k))=some ⟨.aL [],src,st,.eP (.box d k)⟩:=rfl
def akd{d:Option Tmp}{x v:bu}:aN P gl Z7 T st d (.st m x v)=oB (bh gl T x) λ p=>oB (bh gl T v) λ w=>cSt (aB v) (wC st m p w):=by
 simp only[aN];cases bh gl T x;.rfl
 rename_i p;simp only[oB];cases bh gl T v;.rfl
 rename_i w;simp only;cases wC st m p w<;>rfl
def cAq(src:List Tmp)(st:aq):Option ae->Option VR
 |some v=>some ⟨v,src,st,.eP .clean⟩
 |none=>none
def aqu:cAq src st (some v)=some ⟨v,src,st,.eP .clean⟩:=rfl
def asy{d:Option Tmp}{s x:bu}:aN P gl Z7 T st d (.ap sz s x)=oB (bh gl T s) λ a=>oB (bh gl T x) λ b=>cAq (aB s) st (iG st sz a b):=by
 simp only[aN];cases bh gl T s;.rfl
 rename_i a;simp only[oB];cases bh gl T x;.rfl
 rename_i b;simp only;cases iG st sz a b<;>rfl
def cCr(st:aq)(ms:Bool):Option (ae×List bI×Bool)->Option VR
 |some (v,F::S,d)=>match ms&& !(wx v)with|false=>some ⟨v,[],{w:=st.w||d,cur:=F,up:=S},.eP (mZ d)⟩|true=>none
 |_=>none
def akU{d:Bool}:cCr st false (some (v,F::S,d))=some ⟨v,[],{w:=st.w||d,cur:=F,up:=S},.eP (mZ d)⟩:=rfl
def cLr(st:aq):Option ae->Option (ae×Option (Nat×Nat)×aq)
 |some v=>some (bD v,none,st)
 |none=>none
def ajk:cLr st (some v)=some (bD v,none,st):=rfl
def asz{agg:Bool}:qk tk agg m st (.rp cs off)=cLr st (jt agg m cs off):=by simp only[qk];cases jt agg m cs off<;>rfl
def FD(tk agg:Bool)(st:aq)(d k off:Nat)(cs:List ae):Option ae->Option (ae×Option (Nat×Nat)×aq)
 |some v=>cond tk (some (v,some (d,k),oU st d k (cm cs off ((cond agg v.cells [v]).map di)))) (some (bD v,some (d,k),st))
 |none=>none
def awt{agg:Bool}:FD false agg st d k off cs (some v)=some (bD v,some (d,k),st):=rfl
def awk{agg:Bool}:FD true agg st d k off cs (some v)=some (v,some (d,k),oU st d k (cm cs off ((cond agg v.cells [v]).map di))):=rfl
def QX(tk agg:Bool)(m:Nat)(st:aq)(d k off:Nat):Option (List ae)->Option (ae×Option (Nat×Nat)×aq)
 |some cs=>FD tk agg st d k off cs (jt agg m cs off)
 |none=>none
def anV{agg:Bool}:QX tk agg m st d k off (some cs)=FD tk agg st d k off cs (jt agg m cs off):=rfl
theorem aol{agg:Bool}:qk tk agg m st (.ptr d k off)=QX tk agg m st d k off (bE st d k):=by grind[qk,QX,FD]
def ayn{w:Bool}{up:List bI}:bE {w,cur,up} d k=if d=up.length then lk cur k else b7 up d k:=rfl
def aqI{w:Bool}{up:List bI}:m9 {w,cur,up} d k cs=if d=up.length then{w,cur:=mN cur k cs,up}else{w:=true,cur,up:=jv up d k cs}:=rfl
def alj{w:Bool}{up:List bI}:oU {w,cur,up} d k cs=if d=up.length then{w,cur:=mN cur k cs,up}else{w,cur,up:=jv up d k cs}:=rfl
def ajV:mN [] k cs=[]:=rfl
def JS{v:List ae}:mN ((i,v)::F) k cs=(if i=k then(k,cs)else(i,v))::mN F k cs:=rfl
def dm(h:b7 S d k=some cs):b7 (F::S) d k=some cs:=by show(if d=S.length then _ else _)=_;rw[aj (by have:=cY h;omega)];exact h
def nB(b:Bool)(st:aq)(k:Nat)(cs:List ae):Option aq:=match b with|true=>some {st with cur:=(k,cs)::lJ k st.cur}|false=>none
def art:nB true st k cs=some {st with cur:=(k,cs)::lJ k st.cur}:=rfl
theorem avu:gY T st k cs=nB (sM st.up.length k T&&tC st.up.length k (lJ k st.cur)&&iJ st.up.length k cs&&cs.all ae.cell) st k cs:=by grind[gY,nB]
def aAJ:lJ k ([]:List (Nat×α))=[]:=rfl
theorem awY{v:α}{F:List (Nat×α)}:lJ k ((i,v)::F)=if i=k then lJ k F else(i,v)::lJ k F:=by grind[lJ]
def atM:lr d k (.ptr d' k' o)= !(k'==k&&d'==d):=rfl
def alB{z:Nat}:lr d k (.ms d' k' o z)= !(k'==k&&d'==d):=rfl
def atk{f:Nat}:lr d k (.fn f cs)=iJ d k cs:=rfl
def atg:lr d k (.agg cs)=iJ d k cs:=rfl
def auw:lr d k (.aL cs)=iJ d k cs:=rfl
def an9:lr d k (.sc a)=true:=rfl
def aku{o:Option Nat}:lr d k (.sl es o)=true:=rfl
def akN:lr d k (.rp cs o)=true:=rfl
def aj5:iJ d k []=true:=rfl
def ZU{vs:List ae}:iJ d k (v::vs)=(lr d k v&&iJ d k vs):=rfl
def awm:sM d k []=true:=rfl
def asv:sM d k ((i,v)::T)=(lr d k v&&sM d k T):=rfl
def alJ:tC d k []=true:=rfl
def ajn{v:List ae}:tC d k ((i,v)::F)=(iJ d k v&&tC d k F):=rfl
def ako:(ae.sc a).cell=true:=rfl
def anO{o:Option Nat}:(ae.sl es o).cell=true:=rfl
def aro:(ae.ptr d k o).cell=true:=rfl
def az9{f:Nat}:(ae.fn f cs).cell=true:=rfl
def arv{z:Nat}:(ae.ms d k o z).cell=true:=rfl
def avd:(ae.sc a).data=true:=rfl
def aop{o:Option Nat}:(ae.sl es o).data=true:=rfl
def akb:Aj T st k tk src (.sc a)=yN k (.ptr st.up.length k 0) (cond tk src []) (gY T st k [.sc a]):=by cases tk<;>rfl
def ajv{o:Option Nat}:Aj T st k tk src (.sl es o)=yN k (.ptr st.up.length k 0) (cond tk src []) (gY T st k [cond tk (.sl es o) (.sl es none)]):=by cases tk<;>rfl
def ax4:Aj T st k tk src (.agg cs)=yN k (.ptr st.up.length k 0) (cond tk src []) (gY T st k (cond tk cs (cs.map di))):=by cases tk<;>rfl
def aAT:Aj T st k tk src (.ptr d i o)=yN k (.ptr st.up.length k 0) (cond tk src []) (gY T st k [.ptr d i o]):=by cases tk<;>rfl
def aAP{f:Nat}:Aj T st k tk src (.fn f cs)=yN k (.ptr st.up.length k 0) (cond tk src []) (gY T st k [.fn f cs]):=by cases tk<;>rfl
def Qj(b:Bool)(st:aq)(d k off:Nat)(cs v:List ae):Option (aq×Nat×Nat):=match b with|true=>some (m9 st d k (cm cs off v),d,k)|false=>none
def awg{v:List ae}:Qj true st d k off cs v=some (m9 st d k (cm cs off v),d,k):=rfl
def PH(m:Nat)(st:aq)(d k off:Nat)(v:ae):Option (List ae)->Option (aq×Nat×Nat)
 |some cs=>Qj (!v.fw&&(v.cells.length==m&&(decide (off+m<=cs.length)&&((d==st.up.length||v.cells.all ae.data)&&v.cells.all ae.cell)))) st d k off cs v.cells
 |none=>none
def ao4:PH m st d k off v (some cs)=Qj (!v.fw&&(v.cells.length==m&&(decide (off+m<=cs.length)&&((d==st.up.length||v.cells.all ae.data)&&v.cells.all ae.cell)))) st d k off cs v.cells:=rfl
def arU:wC st m (.ptr d k off) v=PH m st d k off v (bE st d k):=by
 simp only[wC];cases bE st d k;.rfl
 rename_i cs;simp only[PH];cases v.fw<;>cases (v.cells.length==m)<;>cases decide (off+m<=cs.length)<;>cases ((d==st.up.length||v.cells.all ae.data)&&v.cells.all ae.cell)<;>rfl
def azS:(ae.sc a).fw=false:=rfl
def awD{o:Option Nat}:(ae.sl es o).fw=false:=rfl
def ao6:(ae.agg cs).fw=false:=rfl
def ap2:(ae.ptr d k o).fw=false:=rfl
def avf{f:Nat}:(ae.fn f cs).fw=false:=rfl
def gW{t:TypeId}(h:i<=4611686018427387904):dn P .add t (.sc (.int .i64 (i:Int))) (.sc (.int .i64 1))=some (eI ((i+1:Nat):Int)):=by have:=Fg (P:=P) (t:=t) (a:=(i:Int)) (b:=1) (by unfold iO;omega);rw[this];rfl
def cFr(st:aq):Option (List ae)->Option (ae×List bI×Bool)
 |some l=>some (lD l,st.up,st.w)
 |none=>none
def amb:cFr st (some l)=some (lD l,st.up,st.w):=rfl
def alc:mW rs (some (.ret,T,st))=cFr st (jC st T rs):=by simp only[mW];cases jC st T rs<;>rfl
def azh:jC st T []=some []:=rfl
def ajb{t:Nat}:jC st T (.t t::rs)=cC (some (jK T t)) (jC st T rs):=by simp only[jC];cases jC st T rs<;>rfl
def ag0:Option (ae×Option (Nat×Nat)×aq)->Option ae
 |some (v,_,_)=>some v
 |none=>none
def av7{b:Option (Nat×Nat)}:ag0 (some (v,b,st))=some v:=rfl
def aAL{a:Nat}{agg:Bool}:jC st T (.c a agg m::rs)=cC (ag0 (qk false agg m st (jK T a))) (jC st T rs):=by simp only[jC];cases qk false agg m st (jK T a)<;>cases jC st T rs<;>rfl
def az6:lD [v]=jw v:=rfl
def akL{w:ae}:lD [v,w]=.aL [bD (jw v),bD (jw w)]:=rfl
def avD{w u:ae}:lD [v,w,u]=.aL [bD (jw v),bD (jw w),bD (jw u)]:=rfl
def aoB:jw (.sc a)=.sc a:=rfl
def at2{o:Option Nat}:jw (.sl es o)=.sl es o:=rfl
def aqq:jw (.ptr d k o)=.aL []:=rfl
def alf:lM i []=[]:=rfl
def asW:lM i (v::l)=(i,v)::lM (i+1) l:=rfl
def auM:gQ S (.sc a)=.sc a:=rfl
def awT{o:Option Nat}:gQ S (.sl es o)=.sl es none:=rfl
def awv:gQ S (.ptr d k o)=.ptr d k o:=rfl
def au4{f:Nat}:gQ S (.fn f cs)=.fn f cs:=rfl
def ayv:gQ S (.agg cs)=.agg (cs.map di):=rfl
def an7:(ae.sc a).fY=false:=rfl
def aoM{o:Option Nat}:(ae.sl es o).fY=false:=rfl
def auR:(ae.ptr d k o).fY=false:=rfl
def akV{f:Nat}:(ae.fn f cs).fY=false:=rfl
def aqA:(ae.agg cs).fY=false:=rfl
def cK(P:Program)(Z7:cI)(st:aq):Option ae->Option (List ae)->Option VR
 |some (.fn g cap),some l=>match cy P g with
  |true=>match Z7 g ((l++cap).map (gQ (st.cur::st.up))) (st.cur::st.up)with
   |some (v,F::S,d)=>
    (match(l++cap).any ae.fY&&(!(wx v)||((l++cap).map (gQ (st.cur::st.up))).any ae.open)with
     |false=>some ⟨v,[],{w:=st.w||d,cur:=F,up:=S},.eP (mZ d)⟩
     |true=>none)
   |_=>none
  |false=>none
 |_,_=>none
def al0{d:Option Tmp}{f:bu}{args:List bu}:aN P gl Z7 T st d (.cl f args)=cK P Z7 st (bh gl T f) (py gl T args):=rfl
def aI{g:Nat}{cap:List ae}(h:cy P g=true)(q:(l++cap).any ae.fY=false):cK P Z7 st (some (.fn g cap)) (some l)=cCr st false (Z7 g ((l++cap).map (gQ (st.cur::st.up))) (st.cur::st.up)):=by
 simp only[cK,h,q,aiA];cases Z7 g ((l++cap).map (gQ (st.cur::st.up))) (st.cur::st.up);.rfl
 rename_i r;obtain⟨v,S,d⟩:=r;cases S<;>rfl
end
section
variable{P:Program}{ng:Nat}{gl:aM}{G:Gh}{H H':ah}
def mL(I:Im)(H H':ah):Im:=λ u=>if u<H.next then I u else H'.objs.get u
theorem Qi(h:cn G (dA []) H):cu G.I (mL G.I H H'):=λ u r e=>by unfold mL;rw[ao (h.lt e).1];exact e
theorem akA(h:H.next<=u):mL G.I H H' u=H'.objs.get u:=by grind[mL]
def yh:bE (dA []) d k=none:=by unfold bE dA;split<;>rfl
theorem Ip(A:cn G (dA []) H)(g:Good H')(fr:Fr none H H')(J:iz H H')(K:aA ρ0 (mL G.I H H') v a)(M:∀(j:Nat) (es:aS) (sz:Nat) (c:aa),v.cells[j]? =some (ae.sl es (some sz))->a.cells[j]? =some c->es=[]/\c=.ai):
 kr 0 G [] H (some (a,H')) v [] false:=by
 refine⟨a,H',{G with I:=mL G.I H H'},rfl,⟨g,λ u r e=>?_,λ d k cs e=>?_,λ d k d' k' cs ab u e=>?_,λ f s e=>?_,λ d k u e=>dF (A.lq d k u e) fr.next⟩,⟨Qi A,λ _ _ _=>rfl,λ _ _=>rfl,λ d k u h=>?_,fr.next,λ u y=>.inl ?_,λ _ _ _ e=>⟨e,rfl⟩,rfl,λ u r e y=>?_,λ f s e _=>⟨s,e⟩,λ f N _=>?_⟩,K,λ j es sz a e e2=>.inl (M j es sz a e e2)⟩
 .have e:mL G.I H H' u=some r:=e;unfold mL at e;split at e;.exact fr.row u r (A.fJ u r e) (by simp)
  exact e
 .rw[yh]at e;cases e
 .rw[yh]at e;cases e
 .obtain⟨f1,mem,Y,D⟩:=A.aC f s e;refine⟨dF f1 fr.next,mem,fr.aG f mem Y (by simp),λ u y=>⟨dF (D u y).1 fr.next,λ ru e=>?_⟩⟩;cases q:H.objs.get u;.rw[J.2.1 u (D u y).1 q]at e;cases e
  rename_i r0;rw[fr.row u r0 q (by simp)]at e;cases e;exact(D u y).2 _ q
 .rw[yh]at h;cases h
 .cases q:H.objs.get u;.exact J.2.1 u y q
  rename_i r0;exact fr.row u r0 q (by simp)
 .grind[mL]
 .cases q:H.aG.get f;.exact J.2.2 f N q
  rename_i m;exact fr.aG f m q (by simp)
theorem aA3(D:cn G (dA []) H)(g:Good H')(fr:Fr none H H')(Y:iz H H'){cells:List aa}{ex:Bool}(y:H.next<=u)(A:H'.objs.get u=some ⟨cells,u,0,ex,false,sz⟩)(ac:H'.aG.get u=some [u])(ab:cells.length=es.length*sz)(K:0<sz)(hr:bR (mL G.I H H') sz es cells):
 kr 0 G [] H (some (.slice u 0 es.length none,H')) (.sl es (some sz)) [] false:=by
 have ag:=(g.wf u _ A).1;have hI:mL G.I H H' u=some ⟨cells,u,0,ex,false,sz⟩:=by rw[akA y];exact A
 have af:G.own u=none:=by
  cases q:G.own u;.rfl
  rename_i s;have:=(D.aC u s q).1;omega
 refine⟨_,H',{G with I:=mL G.I H H',own:=λ f=>if f=u then some (.tmp 0 0 0)else G.own f,tp:=λ f=>if f=u then cells.length else G.tp f},rfl,⟨g,λ u r e=>?_,λ d k cs e=>?_,λ d k d' k' cs ak u e=>?_,λ f s e=>?_,λ d k u e=>dF (D.lq d k u e) fr.next⟩,⟨Qi D,λ _ _ _=>rfl,λ _ _=>rfl,λ d k u h=>?_,fr.next,λ u y=>.inl ?_,λ f s _ e=>?_,rfl,λ u r e y=>?_,λ f s e hf=>?_,λ f hf _=>?_⟩,?_,λ j ai ad a N e2=>?_⟩
 .have e:mL G.I H H' u=some r:=e;unfold mL at e;split at e;.exact fr.row u r (D.fJ u r e) (by simp)
  exact e
 .rw[yh]at e;cases e
 .rw[yh]at e;cases e
 .have e:(if f=u then some (bX.tmp 0 0 0)else G.own f)=some s:=e;by_cases J:f=u;.grind
  rw[aj J]at e;obtain⟨f1,mem,f2,M⟩:=D.aC f s e;refine⟨dF f1 fr.next,mem,fr.aG f mem f2 (by simp),λ u y=>⟨dF (M u y).1 fr.next,λ ru e=>?_⟩⟩;show ru.start+ru.cells.length<=(if f=_ then cells.length else G.tp f);rw[aj J];cases q:H.objs.get u;.rw[Y.2.1 u (M u y).1 q]at e;cases e
  rename_i r0;rw[fr.row u r0 q (by simp)]at e;cases e;exact(M u y).2 _ q
 .rw[yh]at h;cases h
 .cases q:H.objs.get u;.exact Y.2.1 u y q
  rename_i r0;exact fr.row u r0 q (by simp)
 .grind
 .grind[mL]
 .grind
 .cases q:H.aG.get f;.exact Y.2.2 f hf q
  rename_i m;exact fr.aG f m q (by simp)
 .simp only[aA,RP];right;refine⟨u,0,none,_,sz,rfl,hI,.inr ⟨rfl,rfl⟩,by simp only[iX];omega,?_⟩;grind
 .cases j;.simp[ae.cells]at N;simp[aa.cells]at e2;obtain⟨rfl,rfl⟩:=N;subst e2;exact .inr ⟨u,0,_,rfl,hI,rfl,K,rfl,by simp only[iX];omega,ao rfl,by grind⟩
  rename_i j;simp[ae.cells]at N
end
end
end Go.Abs
