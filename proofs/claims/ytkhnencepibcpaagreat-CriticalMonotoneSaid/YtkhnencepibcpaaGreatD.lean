/- The value machine: its soundness. -/
import Derived.Test.YtkhnencepibcpaaGreatA
import Derived.Test.YtkhnencepibcpaaGreatB
import Derived.Test.YtkhnencepibcpaaGreatC
set_option linter.all false
open Bool renaming or_eq_false_iff->aq1,rec->vi,false->W,true->V
open Classical renaming choose->acg
open List renaming drop_eq_getElem_cons->acR,length->amf,range->vv,replicate->ef
open Nat renaming le_max_right->adw
open Option renaming rec->DT,none->X,some->O
open _root_ renaming Bool->mi,Int->U,List->B,Nat->R,Option->gw,rfl->Q,trivial->sp
namespace Go.Abs
noncomputable section
open Go
variable{G' G0 Gu:Gh}{H' H0:aj}{L aae:eE}{S:gC}{Uqq:VT}{Z:iq}{a:au}{acall:bg}{args cs:be}{aah:aF}{bef:oh}{calls:aEI}{d i j k m n sz u:R}{dst:fV}{dt fz:mi}{es:aP}{fn:Func}{nk:vH}{o:Oper}{aag:dM}{p:sj}{pf:mh}{r:VR}{st':aG}{t:bj}{tch:EJ}{v:ak}
section
variable{res:kO}
variable{P:aA}{ng:R}{gl:bH}{G:Gh}{D:R}{T:VT}{T':aM}{st:aG}{H:aj}{ρ:Bx}{I:Im}
def ρ0:Bx:=λ _ _=>X
def aho(ρ:Bx):mQ ρ0 ρ:=nofun
def eJ(S:gC):aG:=(ez [] S)
def SO(st:aG)(d k:R):cu st d k=jW (st.cur::st.up) d k:=rfl
def Bu(S:gC)(d k:R):cu (eJ S) d k=jW S d k:=by
 show(if d=S.length then lk _ k else jW S d k)=_;split
 .cases e:jW S d k;.rfl
  rename_i cs;have:=rF e;omega
 rfl
def cH.congr(h:cH G st H)(e:∀d k,cu st' d k=cu st d k):cH G st' H where
 gd:=h.gd
 gI:=h.gI
 box:=λ d k cs g=>h.box d k cs (by rw[<-e];exact g)
 inj:=λ d k F A cs y u g D=>h.inj d k F A cs y u (by rw[<-e];exact g) (by rw[<-e];exact D)
 aI:=h.aI
 oT:=h.oT
def iV(D:R)(G:Gh)(S:gC)(H:aj)(res:kO)(v:ak)(u:gC)(dt:mi):Prop:=∃a H' G',res=O (a,H')/\cH G' (eJ u) H'/\dF D G (eJ S) H G' (eJ u) H' (kJ (rY dt)) (λ _=>True)/\aJ ρ0 G'.I v a/\tH G' (.tmp D 0) v.cells a.cells
structure pJ (ng:R) (gl:bH) (aae:eE) (acall:bg):Prop where
 plain:∀f args S v S1 dt,aae f args S=some (v,S1,dt)->args.any ak.open=false->args.map dg=args->S1=S/\dt=false/\∀G H aah,cH G (eJ []) H->mJ ng gl G->bu ρ0 G.I args aah->iV 0 G [] H (acall f aah H) v [] false
 open_:∀f args S v S1 dt,aae f args S=some (v,S1,dt)->args.any ak.open=true->args.map dg=args->∀G H aah,cH G (eJ S) H->mJ ng gl G->bu (dL S.length G.ρ) G.I args aah->iV S.length G S H (acall f aah H) v S1 dt
 fresh:∀f args S v S1 dt,Am f=true->aae f args S=some (v,S1,dt)->args.map dg=args->args.any ak.open=false/\S1=S/\dt=false/\∃es,v=.sl es (some 1)/\∀G H aah,cH G (eJ []) H->mJ ng gl G->bu ρ0 G.I args aah->∃H' cells,acall f aah H=some (.slice H.ae 0 es.length none,H')/\HEq (alloc H cells true 1) H'/\dq G.I es.flatten cells
def lJ.mr{H:aj}(g:dF D G st H G' st' H' tch nk){s:nq}(u:wS D s)(k:lJ G s es sz a):lJ G' s es sz a:=by
 rcases k with k|⟨v,off,r,h1,h2,K,J,h5,F,A,y⟩
 .exact .inl k
 obtain⟨e1,e2⟩:=g.qR _ _ u A;exact .inr ⟨v,off,r,h1,g.im _ _ h2,K,J,h5,F,e1,e2.trans y⟩
def agM(D:R)(dst:fV):nq->uy
 |.tmp d i j=>if d=D+1 then(match dst with|O t=>(if i=0 then O (.tmp D t j)else X)|X=>X)else if d=D/\dst=O i then X else O (.tmp d i j)
 |s=>O s
theorem aG8(h:Ok ng gl D G T T' st H){F:xH}(hc:iV (D+1) G (st.cur::st.up) H res v (F::S) dt){w:mi}:
 ∃a H' G',res=O (a,H')/\Ok ng gl D G' (fk n T dst v) (dZ n T' dst a) {w,cur:=F,up:=S} H'/\dF D G st H G' {w,cur:=F,up:=S} H' (kJ (rY dt)) rZ:=by
 obtain⟨a,H',G',h1,h2,y,h4,h5⟩:=hc;have A:=by simpa[eJ]using y.sM
 have J:∀d k,cu {w,cur:=F,up:=S} d k=cu _ d k:=λ d k=>by rw[Bu,SO]
 have P:∀d k,cu _ d k=cu st d k:=λ d k=>by rw[Bu,SO]
 refine⟨a,H',ig G' (agM D (kB n dst)),h1,⟨(h2.congr J).ig λ _ _ _=>rfl,?_,A.trans h.gX,h.jD.mono y.im⟩,?_⟩
 .refine h.tmp.step (src:=[]) (λ d k u e=>?_) y.im (wW (aho _) (bO.refl _) _ _ h4) (λ i hi j es sz c e1 e2=>(h5 j es sz c e1 e2).ig ?_) λ i j es sz c _ M ho=>(ho.mr y (show wS _ (.tmp D i j)from kF D)).ig ?_
  .unfold dL at e⊢;split at e;.rename_i M;rw[aY M];show G'.ρ d k=O u;rw[y.py d k M];exact e
   cases e
  .show(if D+1=D+1 then _ else _)=_;rw[aY Q,hi];rfl
  show(if D=D+1 then _ else if D=D/\kB n dst=O i then X else _)=_;grind
 .refine⟨y.im,λ d k M=>y.py d k aa,λ k _=>y.py D k aa,λ d k u e Y hu=>?_,y.ae,λ u hu=>?_,λ f s K e=>?_,A,y.qq,λ f s e hf=>?_,y.aV⟩;.have:=y.live d k u (by rw[<-J];exact e) Y hu;rw[P]at this;exact this
  .rcases y.rows u hu with e|⟨d⟩
   .exact .inl e
   grind
  .have N:wS (D+1) s:=by
    cases s with
    |tmp d i j=>have:d<D:=K;show d<D+1;omega
    |box _ _ _=>exact K.elim
    |up s=>trivial
   obtain⟨e1,e2⟩:=y.qR f s N e;refine⟨?_,e2⟩;show(G'.own f).bind _=O s;rw[e1];cases s with
   |tmp d i j=>
    have:d<D:=K;simp[agM];grind
   |box _ _ _=>exact K.elim
   |up s=>rfl
  obtain⟨Z,Y⟩:=Ei e;exact y.qf f Z Y hf
open Classical in
noncomputable def M3(G:Gh)(st:aG)(H:aj)(fz:mi):Gh where
 ρ:=ρ0
 I:=λ u=>match G.I u with|O r=>O r|X=>if fz=V/\∃d k,(cu st d k).isSome=V/\G.ρ d k=O u then H.ah.get u else X
 own:=λ f=>(G.own f).map .up
 tp:=G.tp
def IP:bO G.I (M3 G st H fz).I:=λ u r e=>by show(match G.I u with|O r=>O r|X=>_)=_;rw[e]
def MY(d k:R):cu (eJ []) d k=none:=by rw[Bu];rfl
open Classical in
def ai5(h:cH G st H)(fz:mi):cH (M3 G st H fz) (eJ []) H where
 gd:=h.gd
 gI:=λ u r e=>by
  have e:(match G.I u with|some r=>O r|none=>if fz=V/\∃d k,(cu st d k).isSome=V/\G.ρ d k=O u then H.ah.get u else X)=O r:=e;split at e;.rename_i J D;cases e;exact h.gI u r D
  split at e;.exact e
  cases e
 box:=λ d k cs e=>by rw[MY]at e;cases e
 inj:=λ d k M K cs F u e=>by rw[MY]at e;cases e
 oT:=nofun
 aI:=λ f s e=>by
  have e:(G.own f).map _=O s:=e;cases y:G.own f;.rw[y]at e;cases e
  rename_i A;exact h.aI f A y
def aaX(D:R)(dst:fV):nq->uy
 |.up (.tmp d i j)=>if d=D/\dst=O i then X else O (.tmp d i j)
 |.up s=>O s
 |.tmp 0 0 j=>match dst with|O t=>O (.tmp D t j)|X=>X
 |_=>X
def Fy(G u:Gh)(D:R)(dst:fV)(fz:mi):Gh where
 ρ:=G.ρ
 I:=match fz with|V=>G.I|W=>u.I
 own:=λ f=>(u.own f).bind (aaX D dst)
 tp:=u.tp
open Classical in
theorem aGP(h:Ok ng gl D G T T' st H)(hc:iV 0 (M3 G st H fz) [] H res v [] W)(M:fz=V->AJ v=V){w:mi}:
 ∃a H' G',res=O (a,H')/\Ok ng gl D G' (fk n T dst v) (dZ n T' dst a) {st with w} H'/\dF D G st H G' {st with w} H' (kJ .clean) rZ:=by
 obtain⟨a,H',G1,h1,h2,A,h4,h5⟩:=hc
 have F:∀u,u<H.ae->H'.ah.get u=H.ah.get u:=λ u hu=>by
  rcases A.rows u hu with e|⟨d,k,_,e,_⟩
  .exact e
  rw[MY]at e;cases e
 have S:bO G.I (Fy G G1 D (kB n dst) fz).I:=by
  cases fz;.exact IP.trans A.im
  exact bO.refl _
 have ac:bO (Fy G G1 D (kB n dst) fz).I G1.I:=by
  cases fz;.exact bO.refl _
  exact IP.trans A.im
 have y:∀u r,(Fy G G1 D (kB n dst) fz).I u=O r->u<H.ae->G.I u=O r:=λ u r e hu=>by
  cases fz;.have:=A.qq u r e hu;have this:(match G.I u with|some r=>O r|none=>if W=V/\∃d k,(cu st d k).isSome=V/\G.ρ d k=O u then H.ah.get u else none)=O r:=this;grind
  exact e
 have ab:∀f,f<H.ae->G.own f=none->G1.own f=none:=λ f P e=>by
  cases e1:G1.own f;.rfl
  rename_i s;obtain⟨s',K⟩:=A.qf f s e1 P;have K:(G.own f).map _=O s':=K;rw[e]at K;cases K
 have J:∀f s s',G.own f=O s->aaX D _ _=O s'->(Fy G G1 D (kB n dst) fz).own f=O s'/\G1.tp f=G.tp f:=λ f s s' e K=>by obtain⟨e1,e2⟩:=A.qR f (.up s) sp (show(G.own f).map _=O _ by rw[e];rfl);refine⟨?_,e2⟩;show(G1.own f).bind _=O s';exact e1▸K
 have N:∀{s s'} {es} {sz} {c},lJ G s es sz c->aaX D (kB n dst) (.up s)=O s'->lJ (Fy G G1 D (kB n dst) fz) s' es sz c:=by
  intro s s' es sz c k e;rcases k with k|⟨v,off,r,k1,k2,k3,k4,k5,k6,Z,Y⟩
  .exact .inl k
  obtain⟨e1,e2⟩:=J _ _ _ Z e;exact .inr ⟨v,off,r,k1,S _ _ k2,k3,k4,k5,k6,e1,e2.trans Y⟩
 refine⟨a,H',Fy G G1 D _ fz,h1,⟨⟨h2.gd,λ u r e=>h2.gI u r (ac u r e),λ d k cs e=>?_,h.cA.inj,λ f s e=>?_,λ d k u e=>eU (h.cA.oT d k u e) A.ae⟩,?_,h.gX,h.jD.mono S⟩,?_⟩
 .obtain⟨u,r,b⟩:=h.cA.box d k cs e;have hu:=Av.lt h.cA b;refine⟨u,r,{ref:=b.ref,row:=(F u hu)▸b.row,rw:=b.rw,sz:=b.sz,aI:=b.aI,mem:=?_,im:=?_,un:=?_,cells:=An (mQ.refl _) S _ _ b.cells,cell:=b.cell,own:=λ j es sz c e1 e2=>N (b.own j es sz c e1 e2) Q}⟩;.rw[A.aV u hu (show(G.own u).map _=none by rw[b.un];rfl)];exact b.mem
  .cases e:(Fy G G1 D _ fz).I u;.rfl
   rename_i r';have:=y u r' e hu;rw[b.im]at this;cases this
  show(G1.own u).bind _=none;rw[ab u hu b.un];rfl
 .have e:(G1.own f).bind _=O s:=e;cases e1:G1.own f;.rw[e1]at e;cases e
  rename_i s';exact h2.aI f s' e1
 .refine h.tmp.step (src:=[]) (mQ.refl _) S ?_ (λ i hi j es sz c e1 e2=>?_) λ i j es sz c _ hd ho=>N ho ?_
  .cases fz;.exact wW (aho _) (bO.refl _) _ _ h4
   have:=M Q;cases v with
   |sc b=>exact h4
   |_=>simp[AJ]at this
  .rcases h5 j es sz c e1 e2 with k|⟨w,off,r,k1,k2,k3,k4,k5,k6,Z,Y⟩
   .exact .inl k
   cases fz;.refine .inr ⟨w,off,r,k1,k2,k3,k4,k5,k6,?_,Y⟩;show(G1.own _).bind _=_;rw[Z,hi];rfl
   have:=M Q;cases v with
   |sc b=>grind[ak.cells]
   |_=>simp[AJ]at this
  show(if D=D/\kB n dst=O i then none else _)=_;grind
 .refine⟨S,λ _ _ _=>rfl,λ _ _=>rfl,λ d k u e K _=>⟨e,K⟩,A.ae,λ u hu=>.inl (F u hu),λ f s M e=>?_,Q,y,λ f s e P=>?_,λ f P e=>A.aV f P (show(G.own f).map _=none by rw[e];rfl)⟩
  .refine J f s s e ?_;cases s with
   |tmp d i j=>
    have:d<D:=M;show(if d=D/\kB n dst=O i then none else _)=_;rw[aR aa]
   |box _ _ _=>exact M.elim
   |up s=>rfl
  have e:(G1.own f).bind _=O s:=e;cases e1:G1.own f;.rw[e1]at e;cases e
  rename_i s';obtain⟨s2,e2⟩:=A.qf f s' e1 P;have e2:(G.own f).map _=O s2:=e2;cases e3:G.own f;.rw[e3]at e2;cases e2
  rename_i s3;exact⟨s3,Q⟩
end
section
variable{args:uF}{g g':fE}{vs:be}
variable{P:aA}{ng:R}{gl:bH}{G:Gh}{D:R}{T:VT}{T':aM}{st:aG}{H:aj}{ρ:Bx}{I:Im}
def al5:∀(n:R) {vs:be} {bs:aF},dq I vs bs->vs.length=n*sz->cx I sz (qx sz n vs) bs
 |0,vs,bs,y,u=>by have A:=mF (by simpa using u);subst A;rw[xp.1 y];simp[qx,cx]
 |n+1,vs,bs,y,u=>by rw[Hf]at u;exact qa.2 ⟨FC,aiD _ y,al5 n (agS _ y) (by rw[UM];omega)⟩
theorem R2:∀(n:R) (vs:be),(qx sz n vs).length=n
 |0,_=>rfl
 |n+1,vs=>by simp[qx,R2 n]
theorem aeD{len:R}{r:Row}(J:I u=O r)(y:dq I vs r.cells)(F:vs.length=len*sz)(A:len=0\/r.sz=sz):RP I (.sl (qx sz len vs) X) (.slice u 0 len X):=by
 have K:=al5 len y F;have D:=wm y;refine .inr ⟨u,0,X,r,sz,by rw[R2],J,?_,?_,?_⟩
 .rcases A with rfl|e
  .exact .inl Q
  exact .inr ⟨Q,e⟩
 .rw[R2];omega
 grind[R2]
theorem aB7{y:Bx}{b:au}(h:aJ ρ I v b)(u:v.open=W)(hm:v.kZ=W):aJ y I v b:=by
 cases v with
 |sc a=>exact h
 |sl es o=>exact h
 |fn f cs=>
  cases cs;.exact h
  rename_i c cs;simp[ak.open]at u
 |agg cs=>
  rw[aJ]at h⊢;grind[TA,ak.open]
 |ptr d k off=>simp[ak.open]at u
 |rp cs off=>simp[ak.open]at u
 |ms d k n sz=>simp[ak.kZ]at hm
 |bp vs=>simp[ak.open]at u
 |un=>exact h
theorem asC(v:ak):dg (mA S v)=mA S v:=by
 unfold mA;split
 .split;.split<;>rfl
  rfl
 exact am3 v
def ak5(h:v.kZ=W):mA S v=dg v:=by cases v<;>first|rfl|simp[ak.kZ]at h
def aFt(v:ak):(dg v).kZ=v.kZ:=by cases v<;>rfl
theorem aaF(l:be):(l.map (mA S)).map dg=l.map (mA S):=by grind[List.map_congr_left,asC]
def agP:∀{l:be} {aah:aF},l.any ak.kZ=W->bu ρ I l aah->bu ρ I (l.map (mA S)) aah
 |[],_,_,h=>h
 |v::l,_,hm,h=>by obtain⟨c,cs,rfl,h1,h2⟩:=bJ.1 h;rw[UN,aq1]at hm;exact bJ.2 ⟨c,cs,Q,(ak5 hm.1)▸su h1,agP hm.2 h2⟩
open Classical in
def acG(h:cH G st H):∀{l:be} {aah:aF},(l.any ak.kZ=V->fz=V)->(l.map (mA (st.cur::st.up))).any ak.open=W->bu (dL (D+1) G.ρ) G.I l aah->bu ρ0 (M3 G st H fz).I (l.map (mA (st.cur::st.up))) aah
 |[],_,_,_,h=>lX.2 (lX.1 h)
 |v::l,_,P,y,S=>by
  obtain⟨c,cs,rfl,h1,h2⟩:=bJ.1 S;rw[nA,UN,aq1]at y;refine bJ.2 ⟨c,cs,Q,?_,acG h (λ e=>P (by simp[e])) y.2 h2⟩;cases hm:v.kZ;.have A:=y.1;rw[ak5 hm]at A⊢;exact wW (mQ.refl _) IP _ _ (aB7 (su h1) A (by rw[aFt];exact hm))
  cases v with
  |ms d k len sz=>
   have A:=y.1;rw[mA]at A⊢;split at A
   .rename_i vs F;rw[<-SO]at F;obtain⟨u,r,J⟩:=h.box d k vs F;obtain⟨K,M,rfl⟩:=h1;have:K=u:=by have:=KH _ _ _ _ _ M;rw[J.ref]at this;cases this;rfl
    subst this;split at A;.rename_i Y N;simp at N;refine aeD ?_ (B0 IP _ _ (FQ J.cells Y)) bP (.inr (J.sz▸N.2.symm));show(match G.I K with|some r=>O r|none=>if fz=V/\∃d k,(cu st d k).isSome=V/\G.ρ d k=O K then H.ah.get K else X)=O r;rw[J.im,aY ⟨P (by simp[ak.kZ]),d,k,by rw[F];rfl,J.ref⟩];exact J.row
    simp[ak.open]at A
   simp[ak.open]at A
  |_=>simp[ak.kZ]at hm
theorem aey{f:ck}(h:ly P f=V)(acall:bg)(args:aF)(H:aj):eL P acall f args H=acall f args H:=by grind[ly,eL]
def Ok.w(h:Ok ng gl D G T T' st H){w:mi}:Ok ng gl D G T T' {st with w} H:=⟨h.cA.congr λ _ _=>rfl,h.tmp,h.gX,h.jD⟩
theorem arx(K:pJ ng gl aae acall)(h:Ok ng gl D G T T' st H){n:R}{dst:fV}{f:eN}(A:xU P gl aae T st f args=O r):
 ∃a H' G' δ,ud P acall H (cy ng T' f) (ni ng T' args)=O (a,H')/\r.src=[]/\r.e=.eO δ/\Ok ng gl D G' (fk n T dst r.v) (dZ n T' dst a) r.st H'/\dF D G st H G' r.st H' (kJ δ) rZ:=by
 unfold xU at A;split at A<;>try cases A
 rename_i g cap l Z hl;obtain⟨fa,f1,f2,_⟩:=jk h.tmp h.jD Z;obtain⟨aah,l1,l2⟩:=Uj h.tmp h.jD hl;obtain⟨bs,rfl,f3⟩:=f2;have y:=Ws l2 f3;split at A<;>try cases A
 rename_i hq;split at A<;>try cases A
 rename_i v F S dt u;split at A<;>cases A;have he:ud P acall H (cy ng T' f) (ni ng T' args)=acall g (aah++bs) H:=by rw[f1,l1];show eL P acall g _ H=_;rw[aey hq];rfl
 rw[he];cases J:((l++cap).map _).any _
 .obtain⟨⟨⟩,rfl,M⟩:=K.plain _ _ _ _ _ _ u J (aaF _);have Y:=λ fz Z=>M _ H _ (ai5 h.cA fz) (h.jD.mono IP) (acG h.cA Z J y)
  obtain⟨a,H',G',g1,g2,g3⟩:=aGP h (Y _ id) (λ e=>by grind)
  exact⟨a,H',G',.clean,g1,Q,Q,g2,g3⟩
 .have N:(l++cap).any ak.kZ=false:=by grind
  have M:=K.open_ _ _ _ _ _ _ u J (aaF _) G H _ (h.cA.congr λ d k=>by rw[Bu,SO]) h.jD (by rw[(show(st.cur::st.up).length=D+1 by simp[h.gX])];exact agP N y)
  rw[show(st.cur::st.up).length=D+1 by simp[h.gX]]at M;obtain⟨a⟩:=aG8 (n:=n) (dst:=dst) (w:=st.w||dt) h M;grind
def dF.au8{w:mi}(g:dF D G {st with w} H G' st' H' tch nk):dF D G st H G' st' H' tch nk:=⟨g.im,g.py,g.qB,g.live,g.ae,g.rows,g.qR,g.sM,g.qq,g.qf,g.aV⟩
def auI{bs:aF}(h:dq I vs bs){z:R}(e:vs[j]? =O (.sl es (O z))):False:=by
 have h2:(vs.map eZ)[j]? =O (.sl es (O z)):=by rw[(Io h).2.1];exact e
 rw[mu,e]at h2;simp[eZ]at h2
def dF.heq{A y:aj}(g:dF D G st H G' st' A tch nk)(e:HEq A y):dF D G st H G' st' y tch nk:={g with ae:=e.ae▸g.ae,rows:=λ u hu=>by rw[e.ah];exact g.rows u hu,aV:=λ f F k=>by rw[e.aV];exact g.aV f F k}
open Classical in
def azQ(G:Gh)(st:aG)(H:aj):(M3 G st H W).I=G.I:=by funext u;show(match G.I u with|some r=>O r|none=>if W=V/\_ then _ else X)=_;cases G.I u<;>simp
def aG3(ab:pJ ng gl aae acall)(h:Ok ng gl D G T T' st H){f:ck}(hf:Am f=V)(y:AT T dst (xU P gl aae T st (.func f) args)=O r):
 ∃a H' G',ud P acall H (cy ng T' (.func f)) (ni ng T' args)=O (a,H')/\r.e=.zg/\Ok ng gl D G' (fk n (kI r.src T) dst r.v) (dZ n T' dst a) r.st H'/\dF D G st H G' r.st H' (kJ .clean) (λ k=>dst=O k):=by
 unfold AT at y;split at y<;>try cases y
 rename_i es src iz u;split at y<;>try cases y
 rename_i k;split at y<;>cases y;rename_i dp hn;unfold xU at u;split at u<;>try cases u
 rename_i g cap l hg hl;cases hg;split at u<;>try cases u
 rename_i hq;split at u<;>try cases u
 rename_i v F S d A;split at u<;>try cases u
 rename_i K;simp at u;obtain⟨rfl,_,Y,hd⟩:=u;obtain⟨ho,⟨⟩,rfl,ad,⟨⟩,aa⟩:=ab.fresh _ _ _ _ _ _ hf A (aaF _)
 have Z:(l++[]).any ak.kZ=false:=by
  cases hx:(l++[]).any _;.rfl
  rw[hx]at K;simp[AJ]at K
 obtain⟨aah,l1,l2⟩:=Uj h.tmp h.jD hl;obtain⟨H',cells,k1,k2,N⟩:=aa _ H aah (ai5 h.cA false) (h.jD.mono IP) (acG h.cA (λ e=>by rw[Z]at e;cases e) ho (by rw[ou];exact l2));rw[azQ]at N;have J:iz={st with w:=st.w||false}:=Y▸Q;subst J;obtain⟨G',M,g2⟩:=NZ h.w hn (Gq N) (λ j es z c e1 _=>(auI N e1).elim) (v:=.ms st.up.length k _ 1) (λ ac e=>⟨H.ae,by unfold dL;rw[aY (by rw[h.gX];omega),h.gX];exact e,Q⟩) (kM aw Q);refine⟨_,H',G',?_,Q,⟨M.cA.heq k2,M.tmp,M.gX,M.jD⟩,(dF.heq (g2.ot (λ _ _ e=>e) λ _ e=>by rw[e]) k2).au8⟩;rw[l1];show eL P acall f _ H=_;rw[ou,aey hq];exact k1
def KW:rV->vN
 |.eO d=>d
 |_=>.clean
def aof(P:aA)(ng:R)(G:Gh)(st:aG)(H:aj)(T':aM)(o:Op)(a:au):rV->Prop
 |.read (O (d,k))=>∃u,G.ρ d k=O u/\(cu st d k).isSome=V/\∀g':R->oR,g' u=H.ah.get u->dY P ng T' g' o=O a
 |.read X=>∀g':R->oR,(∀u r,G.I u=O r->g' u=O r)->dY P ng T' g' o=O a
 |_=>True
def mB:rV->R
 |.pure=>0
 |.read _=>1
 |.new _=>2
 |.eO _=>3
 |.zg=>3
theorem aHv(o:Op):dK o<=3:=by unfold dK;split<;>omega
theorem alK{o:Op}(u:dK o=1)(h:dY P ng T' H.ah.get o=O a):bR P ng acall T' H o=O (a,H):=by grind[bR,iG]
theorem ar4{x:au}(h:∀v off len lim,x=.slice v off len lim->g' v=g v):jy g' sz x=jy g sz x:=by
 cases x with
 |slice v off len lim=>
  cases lim;.grind[jy]
  rename_i c;rfl
 |_=>rfl
def aIN{x:au}{lo hi:cR}(h:∀v off len lim,x=.slice v off len lim->g' v=g v):kU P g' t x lo hi=kU P g t x lo hi:=by
 cases x with
 |slice v off len lim=>
  unfold kU;simp only[λ sz=>ar4 h]
 |_=>rfl
theorem azb{x:ak}{lo D:fN}{A:au}(h:Fz P t x lo D=O v)(hx:aJ ρ I x A):∀u off len lim,A=.slice u off len lim->∃r,I u=O r:=by
 rintro u off len lim rfl
 unfold Fz at h;split at h;.have y:RP I _ _:=hx;rw[RP]at y;grind
 .cases hx.1
 cases h
theorem Rm(ab:pJ ng gl aae acall)(h:Ok ng gl D G T T' st H){n:R}(A:ir P pf gl aae T st o=O r):
 ∃a H' G',bR P ng acall T' H o.op=O (a,H')/\Ok ng gl D G' (fk n (kI r.src T) o.dst r.v) (dZ n T' o.dst a) r.st H'/\dF D G st H G' r.st H' (kJ (KW r.e)) (KA r.e o.dst)/\dK o.op=mB r.e/\aof P ng G st H T' o.op a r.e/\(mB r.e<=1->H'=H):=by
 unfold ir at A;split at A
 .rename_i F;split at A<;>try cases A
  rename_i v K;obtain⟨a,h1,h2⟩:=awb h.tmp h.jD K;obtain⟨G',Y,M⟩:=stepT (n:=n) h h2;exact⟨a,H,G',by grind[bR,iG],Y,M,F,sp,λ _=>rfl⟩
 .rename_i F;split at A
  .split at A
   .rename_i y Z;split at A<;>try cases A
    rename_i v b st' K;obtain⟨ax,h1,h2,_⟩:=jk h.tmp h.jD Z;obtain⟨a,G',Y,M,g3,g4,g5⟩:=aF8 (n:=n) h h2 K;refine⟨a,H,G',?_,M,g3,F,?_,λ _=>rfl⟩;.grind[alK,dY,wk]
    cases b;.exact λ g' aa=>by grind[dY,wk]
    rename_i p;obtain⟨u,k1,N,k3⟩:=g4 p.1 p.2 Q;exact⟨u,k1,N,λ g' aa=>by grind[dY,wk]⟩
   cases A
  .rename_i t x lo hi J;split at A
   .rename_i y l m Z hl hm;split at A<;>try cases A
    rename_i v K;obtain⟨ax,h1,h2,_⟩:=jk h.tmp h.jD Z;obtain⟨ad,l1,l2⟩:=akv h.tmp h.jD hl;obtain⟨ae,m1,m2⟩:=akv h.tmp h.jD hm;obtain⟨a,k1,N⟩:=aqf K h2 l2 m2 h.cA.gI;obtain⟨G',Y,M⟩:=stepT (n:=n) h (N.pr []);refine⟨a,H,G',?_,Y,M,F,λ g' aa=>?_,λ _=>rfl⟩;.grind[alK,dY,xn]
    rw[J];simp only[dY,h1,l1,m1,xn];rw[<-k1];refine aIN λ u off len lim e=>?_
    obtain⟨r,A⟩:=azb K h2 u off len lim e;rw[aa u r A,h.cA.gI u r A]
   cases A
  cases A
 .rename_i F;split at A;.rename_i v src st' K;cases A;obtain⟨a,H',G',h1,h2,h3⟩:=awH (n:=n) h K;exact⟨a,H',G',by simp only[bR,F,h1],h2,h3,F,sp,λ e=>by simp[mB]at e⟩
  cases A
 .have F:dK o.op=3:=by grind[aHv]
  have ac:bR P ng acall T' H o.op=uV P ng acall T' H o.op:=by simp only[bR,F]
  split at A
  .rename_i S;unfold DX at S;split at S;.rename_i g args ts J;rw[J]at A;obtain⟨a,H',G',k1,N,k4,k5⟩:=aG3 (n:=n) ab h S A;refine⟨a,H',G',J▸k1,k4,?_,N▸F,by rw[N];trivial,λ e=>by rw[N]at e;simp[mB]at e⟩;rw[N];exact k5
   cases S
  unfold vR at A;split at A
  .split at A
   .rename_i y v Z K;split at A<;>try cases A
    rename_i st' d k hs;obtain⟨ay,y1,y2,_⟩:=jk h.tmp h.jD Z;obtain⟨av,v1,v2,v3⟩:=jk h.tmp h.jD K;obtain⟨H',G',Y,M,g3⟩:=aCa (n:=n) h y2 v2 v3 hs;exact⟨.tuple [],H',G',by grind[uV,xG],M,g3,F,sp,λ e=>by simp[mB]at e⟩
   cases A
  .obtain⟨a,H',G',δ,k1,N,k3,k4,k5⟩:=arx (n:=n) ab h A;rw[N,k3];exact⟨a,H',G',by grind[uV,yT],k4,k5,F,sp,λ e=>by simp[mB]at e⟩
  .rename_i s x ts J;split at A<;>try cases A
   rename_i y z Z hz;split at A;.rename_i v K;cases A;obtain⟨ay,y1,y2,y3⟩:=jk h.tmp h.jD Z;obtain⟨az,z1,z2,_⟩:=jk h.tmp h.jD hz;obtain⟨a,H',G',Y,M,g3⟩:=aBc (n:=n) h y2 y3 z2 K;refine⟨a,H',G',?_,M,g3,F,sp,λ e=>by simp[mB]at e⟩;rw[J];show Bj P H _ (Az _ (Az _ (O [])))=_;rw[y1,z1];exact Y
   split at A<;>try cases A
   rename_i v K;obtain⟨ay,y1,y2,y3⟩:=jk h.tmp h.jD Z;obtain⟨az,z1,z2,_⟩:=jk h.tmp h.jD hz;obtain⟨G',Y,M,g3⟩:=aEf (n:=n) h y2 y3 z2 K;refine⟨ay,H,G',?_,M,g3,F,sp,λ e=>by simp[mB]at e⟩;rw[J];show Bj P H _ (Az _ (Az (cy ng T' x) (O [])))=_;rw[y1,z1];exact Y
  cases A
end
section
variable{P:aA}{ng:R}{gl:bH}{G:Gh}{D:R}{T:VT}{T':aM}{st:aG}{H:aj}
theorem aed:(st.w=V->(tv st d k cs).w=V)/\(d=st.up.length\/(tv st d k cs).w=V):=by grind[tv]
theorem awI:(tR st d k cs).w=st.w:=by unfold tR;split<;>rfl
def axV{s:aG}(h:iX T st k cs=O s):s.w=st.w/\s.up=st.up:=by unfold iX at h;split at h<;>cases h;exact⟨Q,Q⟩
def akU{o:Op}(u:vR P gl aae T st o=O r):(st.w=true->r.st.w=true)/\∀d k,kJ (KW r.e) d k->d=st.up.length\/r.st.w=true:=by
 unfold vR at u;split at u
 .split at u<;>try cases u
  split at u<;>cases u;rename_i st' d k y;unfold HE at y;split at y
  .split at y;.split at y<;>cases y;exact⟨aed.1,λ K D e=>by obtain⟨rfl⟩:=e;exact aed.2⟩
   cases y
  cases y
 .unfold xU at u;split at u<;>try cases u
  split at u
  .split at u
   .rename_i v F S dt J;split at u<;>cases u;refine⟨λ A=>by simp[A],λ d k e=>?_⟩;cases dt;.exact e.elim
    exact .inr aw
   cases u
  cases u
 .split at u
  .split at u;.cases u;exact⟨id,λ _ _ h=>h.elim⟩
   split at u<;>cases u;exact⟨id,λ _ _ h=>h.elim⟩
  cases u
 cases u
theorem adN(u:ir P pf gl aae T st o=O r):(st.w=true->r.st.w=true)/\∀d k,kJ (KW r.e) d k->d=st.up.length\/r.st.w=true:=by
 unfold ir at u;split at u
 .split at u;.cases u;exact⟨id,λ _ _ h=>h.elim⟩
  cases u
 .split at u
  .split at u
   .split at u;.rename_i x hx v b st' y;cases u;refine⟨λ A=>?_,λ _ _ h=>h.elim⟩;unfold Ad at y;grind[awI]
    cases u
   cases u
  .split at u
   .split at u;.cases u;exact⟨id,λ _ _ h=>h.elim⟩
    cases u
   cases u
  cases u
 .split at u<;>try cases u
  rename_i v src st' y;refine⟨λ A=>?_,λ _ _ h=>h.elim⟩;have D:∀k cs s,iX T st k cs=O s->s.w=true:=by grind[iX]
  unfold Di at y;split at y;.grind
  .grind
  .grind
  .split at y;.grind
   cases y
  cases y
 split at u
 .unfold AT at u;split at u
  .rename_i es src iz J;split at u
   .split at u<;>try cases u
    rename_i dp F;refine⟨λ A=>?_,λ _ _ h=>h.elim⟩;rw[(axV F).1];exact(akU J).1 A
   cases u
  cases u
 exact akU u
def TW(D:R)(w:mi)(d:R)(_:R):Prop:=d=D\/w=V
def TW.mono{w u:mi}(h:w=V->u=V)(d k:R)(e:TW D w d k):TW D u d k:=e.imp id h
def BJ:R->Prop:=λ _=>True
def Ib(F:tJ G D T T')(h:zL aag T o=V):cn aag T' o=zI aag T o:=by
 unfold zL at h;unfold cn zI;split at h;.rename_i e;rw[e]
 rename_i j b e;rw[e];simp;split at h<;>try cases h
 rename_i J y;rw[y];simp;split at h<;>try cases h
 rename_i d A;rw[A];simp;have:=(PG F d).1;split at h;.rename_i c u;rw[u]at this;rw[this.1,u]
 .rename_i u;rw[u]at this;rw[this,u]
 cases h
def Pz(h:Ok ng gl D G T T' st H):∃G',Ok ng gl D G' (fk n T dst .un) (dZ n T' dst (.tuple [])) st H/\dF D G st H G' st H (kJ .clean) rZ:=stepT (src:=[]) h ⟨by simp[aJ],λ _ _=>X,λ j es sz c e1 e2=>.inl ((kM aw Q) j es sz c e1 e2)⟩
def Yb(A:pJ ng gl aae acall):∀{l:dM} {G:Gh} {T:VT} {T':aM} {st:aG} {H:aj} {M:VT} {dp:aG},Ok ng gl D G T T' st H->Aa P pf gl aae n aag l T st=O (M,dp)->
 (st.w=V->dp.w=V)/\∃u F J,gv P ng acall n aag l T' H=O (u,F)/\Ok ng gl D J M u dp F/\dF D G st H J dp F (TW D dp.w) BJ
 |[],G,T,T',st,H,M,dp,h,e=>by cases e;exact⟨id,T',H,G,Q,h,dF.refl _ _ _ _ _ _⟩
 |o::l,G,T,T',st,H,M,dp,h,e=>by
  rw[Aa]at e;split at e
  .rename_i S N;split at e<;>try cases e
   rename_i r hr;obtain⟨a,H1,G1,h1,h2,h3,_⟩:=Rm A h hr;obtain⟨w1,w2⟩:=adN hr;obtain⟨K,u,F,J,Z,h5,Y⟩:=Yb A h2 e;refine⟨λ y=>K (w1 y),u,F,J,?_,h5,h3.trans Y (λ d k y=>?_) (λ _ _ y=>y) (λ _ _=>trivial) (λ _ _=>trivial)⟩;.show vi (motive:=λ _=>gw _) _ _ _=_;rw[Ib h.tmp S,N,h1];exact Z
   rcases w2 d k y with e|e
   .exact .inl (e.trans h.gX)
   exact .inr (K e)
  .rename_i S N;obtain⟨G1,h2,h3⟩:=Pz h;obtain⟨K,u,F,J,Z,h5,Y⟩:=Yb A h2 e;refine⟨K,u,F,J,?_,h5,h3.trans Y (λ d k y=>y.elim) (λ _ _ y=>y) (λ _ _=>trivial) (λ _ _=>trivial)⟩;show vi (motive:=λ _=>gw _) _ _ _=_;rw[Ib h.tmp S,N];exact Z
  cases e
end
section
variable{S:jf}{e:R×kH}{es:vM}{o0:fE}{δ:vN}
variable{P:aA}{ng:R}{gl:bH}{G:Gh}{D:R}{T:VT}{T':aM}{st:aG}{H:aj}
mutual
theorem abF:∀a:au,gQ a a=V
 |.bool b=>by simp[gQ]
 |.int k n=>by simp[gQ]
 |.str s=>by simp[gQ]
 |.fq=>rfl
 |.ptr _ _=>by simp[gQ]
 |.aq=>rfl
 |.slice _ _ _ _=>by simp[gQ]
 |.eY=>rfl
 |.nilFunc=>rfl
 |.iface=>rfl
 |.func f a b=>by simp[gQ,NT a,NT b]
 |.agg cs=>by simp[gQ,NT cs]
 |.tuple cs=>by simp[gQ,NT cs]
theorem NT:∀l:B au,wc l l=V
 |[]=>rfl
 |a::l=>by simp[wc,abF a,NT l]
end
def qQ(o0:fE):vM->R->R->oR
 |[],_=>o0
 |e::es,k=>if k=es.length+1 then e.2.get else qQ o0 es k
theorem JF(h:k<=es.length):qQ o0 (e::es) k=qQ o0 es k:=by show(if k=es.length+1 then _ else _)=_;grind
theorem Ns:qQ o0 (e::es) (es.length+1)=e.2.get:=by show(if es.length+1=es.length+1 then _ else _)=_;rw[aY Q]
theorem aEr{e:R×vN}{es:lT}(h1:m<=es.length)(h2:k<=es.length):lA p m k (e::es)=lA p m k es:=by grind[lA]
theorem aiO(hm:m<=n):∀{es:lT},es.length<=n->lA p m (n+1) es=lA p m n es
 |[],_=>rfl
 |e::es,h=>by
  simp at h;have a:decide (min m (n+1)<=es.length)=decide (min m n<=es.length):=by grind
  have b:decide (es.length<max m (n+1))=decide (es.length<max m n):=by grind
  simp[lA,a,b,aiO hm (es:=es) aa]
theorem apd{e:R×vN}{es:lT}(hm:m<=es.length)(h:lA p m (es.length+1) (e::es)=true):AD p e.2=true/\lA p m es.length es=true:=by grind[lA,aiO]
def akR:∀{es:lT},lA p m m es=V
 |[]=>rfl
 |e::es=>by
  have:(decide (min m m<=es.length)&&decide (es.length<max m m))=false:=by simp
  rw[lA,this];exact akR
def akZ:∀{es:lT},lA p m k es=lA p k m es
 |[]=>rfl
 |e::es=>by simp[lA,Nat.min_comm m k,Nat.max_comm m k,akZ]
def aEQ(h:AD (d,k) δ=V):¬kJ δ d k:=by
 cases δ with
 |clean=>exact id
 |box y u=>
  rintro⟨rfl,rfl⟩
  simp[AD]at h
 |all=>simp[AD]at h
def avH{Z b:mi}(h:KA (.new b) dst k):(Z||b)=true:=by
 cases b;.exact h.elim
 cases Z<;>rfl
def Uk(P:aA)(ng:R)(G0:Gh)(bF:aG)(H0 H:aj)(S:jf)(Z:iq)(r:R×aM×Op×au):Prop:=
 (∀y:R->oR,(∀u w,G0.I u=O w->y u=O w)->dY P ng r.2.1 y r.2.2.1=O r.2.2.2)\/
 ∃b m,(r.1,b,m)∈Z.rs/\m<=Z.es.length/\match b with
  |X=>dY P ng r.2.1 (qQ H0.ah.get S.es m) r.2.2.1=O r.2.2.2
  |O p=>∃u row,(cu bF p.1 p.2).isSome=V/\G0.ρ p.1 p.2=O u/\(∀y:R->oR,y u=row->dY P ng r.2.1 y r.2.2.1=O r.2.2.2)/\(∀k,k<=Z.es.length->lA p m k Z.es=V->qQ H0.ah.get S.es k u=row)/\(lA p m Z.es.length Z.es=V->H.ah.get u=row)
structure oH (P:aA) (ng:R) (D:R) (G0:Gh) (bF:aG) (H0:aj) (S:jf) (Z:iq) (G:Gh) (st:aG) (H:aj):Prop where
 bM:S.bM=Z.bM
 idx:S.es.map (·.1)=Z.es.map (·.1)
 mr:dF D G0 bF H0 G st H (λ _ _=>True) (λ _=>Z.an=true)
 Q2:Z.bM=[]->H=H0
 JL:∀k,k<=Z.es.length->∀u r,G0.I u=some r->qQ H0.ah.get S.es k u=some r
 now:Z.al=false->∀u,qQ H0.ah.get S.es Z.es.length u=H.ah.get u
 box:∀d k u,(cu bF d k).isSome=true->G0.ρ d k=some u->∀m,m<=Z.es.length->lA (d,k) m Z.es.length Z.es=true->qQ H0.ah.get S.es m u=H.ah.get u
 reads:∀r∈S.rs,Uk P ng G0 bF H0 H S Z r
def oH.len{bF:aG}(h:oH P ng D G0 bF H0 S Z G st H):S.es.length=Z.es.length:=by simpa using(fP amf h.idx)
def oH.start(h:cH G st H):oH P ng D G st H ⟨[],[],[]⟩ ⟨[],[],W,W,[]⟩ G st H where
 bM:=rfl
 idx:=rfl
 mr:=dF.refl _ _ _ _ _ _
 Q2:=λ _=>rfl
 JL:=λ _ _ u r e=>h.gI u r e
 now:=λ _ _=>rfl
 box:=λ _ _ _ _ _ _ _ _=>rfl
 reads:=λ _ y=>bk
def oH.rows{bF:aG}(h:oH P ng D G0 bF H0 S Z G st H)(J:cH G0 bF H0)(g:dF D G st H G' st' H' (kJ δ) nk)(N:(cu bF d k).isSome=V)(hu:G0.ρ d k=O u)(Y:AD (d,k) δ=V):H'.ah.get u=H.ah.get u:=by
 have y:=J.oT d k u hu;rcases g.rows u (eU y h.mr.ae)with e|⟨M,K,e1,e2,e3⟩
 .exact e
 obtain⟨e4,e5⟩:=h.mr.live M K u e2 e3 y;obtain⟨c1,F⟩:=tN.1 N;obtain⟨c2,A⟩:=tN.1 e4;obtain⟨rfl,rfl⟩:=J.inj M K d k c2 c1 u A F e5 hu;exact(aEQ Y e1).elim
theorem Kq{p:Prop}(h:p:=by simp[mB]):p:=h
theorem oH.step{G0:Gh}{bF:aG}{H0:aj}{S:jf}{Z:iq}(h:oH P ng D G0 bF H0 S Z G st H)(s0:cH G0 bF H0)(aw:bF.up.length=D)(hs:cH G st H)(hD:st.up.length=D){G':Gh}{st':aG}{H':aj}{e:rV}{dst:fV}{o:Op}{a:au}{i bef:R}{Z':iq}
 (g:dF D G st H G' st' H' (kJ (KW e)) (KA e dst)) (Y:dK o=mB e) (ae:aof P ng G st H T' o a e) (hH:mB e<=1->H'=H) (M:Cd bef i Z e=O Z'):
 ∃S',jt bef i T' o S (a,H')=O S'/\oH P ng D G0 bF H0 S' Z' G' st' H':=by
 have ac:=h.len;have J:∀b:mi,(Z.an=V->b=V)->(∀k,KA e dst k->b=V)->dF D G0 bF H0 G' st' H' _ _:=λ b h1 h2=>h.mr.trans g (λ _ _ _=>trivial) (λ _ _ _=>trivial) (λ _ K=>h1 K) h2
 cases e with
 |zg=>cases M
 |pure=>
  cases M;have hH:=hH Kq;subst hH;refine⟨S,by simp only[jt,Y,mB],{h with mr:=J _ id (λ _ K=>K.elim)}⟩
 |read b=>
  have hH:=hH Kq;subst hH;have hS:jt bef i T' o S (a,H')=O (wX i T' o S a):=by simp only[jt,Y,mB]
  have build:∀A:iq,A.bM=Z.bM->A.es=Z.es->A.al=Z.al->A.an=Z.an->(∀x∈Z.rs,x∈A.rs)->Uk P ng G0 bF H0 H' (wX i T' o S a) A (i,T',o,a)->oH P ng D G0 bF H0 (wX i T' o S a) A G' st' H':=by
   intro A z1 z2 z3 z4 z5 z6;refine⟨z1▸h.bM,z2▸h.idx,z4▸J _ id (λ _ K=>K.elim),z1▸h.Q2,z2▸h.JL,by rw[z3,z2];exact h.now,z2▸h.box,λ r hr=>?_⟩;rcases cg.1 hr with rfl|hr
   .exact z6
   rcases h.reads r hr with k|⟨b,m,k1,k2,k3⟩
   .exact .inl k
   refine .inr ⟨b,m,z5 _ k1,bP,?_⟩;rw[z2];exact k3
  have ai:Z.al=W->dY P ng T' H'.ah.get o=O a->∀A:iq,A.es=Z.es->(i,X,Z.es.length)∈A.rs->Uk P ng G0 bF H0 H' (wX i T' o S a) A (i,T',o,a):=by intro N hr A z2 z5;refine .inr ⟨X,Z.es.length,z5,by simp_all,?_⟩;have:=funext (h.now N);show dY P ng T' (qQ H0.ah.get S.es Z.es.length) o=O a;grind
  cases b
  .simp only[Cd]at M;cases hp:Z.bM;.simp only[hp]at M;cases M;exact⟨_,hS,build Z Q Q Q Q (λ _ hx=>hx) (.inl λ g' aq=>ae g' λ u r e=>(aq u r (h.mr.qq u r e ((h.Q2 hp)▸(hs.lt e).1))))⟩
   rename_i y ys;cases N:Z.al;.simp only[hp,N]at M;cases M;exact⟨_,hS,build _ hp.symm Q N.symm Q (λ _ hx=>cV _ hx) (ai N (ae _ hs.gI) _ Q (dJ ..))⟩
   simp_all
  rename_i p;obtain⟨u,r1,r2,r3⟩:=ae;simp only[Cd]at M;cases ag:Z.an
  .simp only[ag]at M;cases M;have av:p.1<=D:=by obtain⟨c,hc⟩:=tN.1 r2;have:=abC hc;omega
   have ad:G0.ρ p.1 p.2=O u:=by
    rcases yi p.1 D with e|e
    .rw[<-h.mr.py p.1 p.2 e];exact r1
    have:p.1=D:=aa;rw[this,<-h.mr.qB p.2 (by rw[ag];simp),<-this];exact r1
   have ao:=(h.mr.live p.1 p.2 u r2 r1 (s0.oT _ _ _ ad)).1;refine⟨_,hS,build _ Q Q Q ag.symm (λ _ hx=>cV _ hx) (.inr ⟨O p,Z.es.length,dJ ..,aZ _,u,H'.ah.get u,ao,ad,r3,λ k K F=>?_,λ _=>rfl⟩)⟩;rw[akZ]at F;exact h.box p.1 p.2 u ao ad k K F
  grind
 |new nb=>
  cases M;have am:∀d k u,(cu bF d k).isSome=V->G0.ρ d k=O u->H'.ah.get u=H.ah.get u:=λ d k u hl hu=>h.rows s0 g hl hu Q
  refine⟨Bn i S,by simp only[jt,Y,mB],⟨?_,h.idx,J _ (λ e=>by rw[e];rfl) (λ _ e=>avH e),λ hp=>bk,h.JL,λ N=>bk,λ d k u hl hu m hm F=>?_,λ r hr=>?_⟩⟩;.show i::S.bM=i::Z.bM;rw[h.bM]
  .rw[am d k u hl hu];exact h.box d k u hl hu m hm F
  rcases h.reads r hr with k|⟨b,m,k1,k2,k3⟩
  .exact .inl k
  refine .inr ⟨b,m,k1,k2,?_⟩;cases b;.exact k3
  rename_i p;obtain⟨u,row,q1,q2,q3,q4,q5⟩:=k3;exact⟨u,row,q1,q2,q3,q4,λ F=>bP⟩
 |eO δ=>
  simp only[Cd]at M;split at M<;>try cases M
  rename_i hp;have hS:jt bef i T' o S (a,H')=O (D2 i S H'):=by simp only[jt,Y,mB,h.bM,hp]
  refine⟨D2 i S H',hS,⟨?_,?_,J _ id (λ _ K=>K.elim),λ hp=>bk,λ k K u r e=>?_,λ _ u=>?_,λ d k u hl hu m hm F=>?_,λ r hr=>?_⟩⟩;.show i::S.bM=i::Z.bM;rw[h.bM]
  .show i::S.es.map (·.1)=i::Z.es.map (·.1);rw[h.idx]
  .show qQ H0.ah.get ((i,H'.ah)::S.es) k u=O r;have K:k<=Z.es.length+1:=K;rcases yi k (Z.es.length+1)with af|af
   .rw[JF aa];exact h.JL k aa u r e
   have:k=S.es.length+1:=aa;rw[this,Ns];have hi:=h.mr.im u r e;rcases g.rows u (hs.lt hi).1 with e2|⟨d',k',e1,e2,e3⟩
   .rw[e2];exact hs.gI u r hi
   obtain⟨c2,ar⟩:=tN.1 e2;obtain⟨u2,r2,bo⟩:=hs.box d' k' c2 ar;have:u2=u:=by have:=bo.ref;simp_all
   subst this;rw[bo.im]at hi;cases hi
  .show qQ H0.ah.get ((i,H'.ah)::S.es) (Z.es.length+1) u=_;rw[<-ac,Ns]
  .show qQ H0.ah.get ((i,H'.ah)::S.es) m u=_;have hm:m<=Z.es.length+1:=hm;rcases yi m (Z.es.length+1)with ap|ap
   .rw[JF aa];obtain⟨e1,e2⟩:=apd aa F;rw[h.rows s0 g hl hu e1];exact h.box d k u hl hu m aa e2
   have:m=S.es.length+1:=aa;rw[this,Ns]
  rcases h.reads r hr with k|⟨b,m,k1,k2,k3⟩
  .exact .inl k
  refine .inr ⟨b,m,k1,Nat.le_succ_of_le k2,?_⟩;cases b;.show dY P ng r.2.1 (qQ H0.ah.get ((i,H'.ah)::S.es) m) r.2.2.1=_;grind[JF]
  rename_i p;obtain⟨u,row,q1,q2,q3,q4,q5⟩:=k3;have ab:lA p m _ ((i,δ)::Z.es)=V->H'.ah.get u=row:=λ F=>by obtain⟨e1,e2⟩:=apd k2 F;rw[h.rows s0 g q1 q2 e1];exact q5 e2
  refine⟨u,row,q1,q2,q3,λ k K F=>?_,ab⟩;show qQ H0.ah.get ((i,H'.ah)::S.es) k u=row;have K:k<=Z.es.length+1:=K;rcases yi k (Z.es.length+1)with af|af
  .rw[JF aa];grind[lA]
  have:k=Z.es.length+1:=aa;subst this;rw[<-ac,Ns];exact ab F
theorem Yn{u:kH}{y:aM}{o:Op}{v:au}{ok:kl}:∀{es:vM} {A:lT} {up:bA},es.map (·.1)=A.map (·.1)->Aq bef j ok A up=V->
 (∀k,k<=es.length->ok k=V->dY P ng y (qQ u.get es k) o=O v)->uE P ng bef u j y o v es up=V
 |[],[],up,_,h,F=>by
  show((match(generalizing:=false) up with|some e=>tb _ e|none=>W)||mX P ng y _ o v)=V;simp[Aq]at h⊢;rcases h with h|h
  .exact .inl h
  have:=F 0 (aZ _) h;have this:dY P ng y u.get o=O v:=this;grind[mX,abF]
 |e::es,z::A,up,hm,h,F=>by
  simp at hm;have D:=by simpa using(fP amf hm.2)
  show(((match(generalizing:=false) up with|some M=>tb _ M|none=>W)||tb _ j||mX P ng y _ o v)&&uE P ng bef u j y o v es _)=V;simp[Aq]at h⊢;refine⟨by grind[Ns,mX,abF],?_⟩;refine Yn (ok:=ok) hm.2 ?_ λ k K J=>?_
  .simp_all
  grind[JF]
 |[],_::_,_,hm,_,_=>by simp at hm
 |_::_,[],_,hm,_,_=>by simp at hm
def Yv(J:pJ ng gl aae acall){bF:aG}(s0:cH G0 bF H0)(K:bF.up.length=D):∀{l:dM} {i:R} {S:jf} {Z:iq} {G:Gh} {T:VT} {T':aM} {st:aG} {H:aj} {Z2:iq} {T2:VT} {dp:aG},Ok ng gl D G T T' st H->oH P ng D G0 bF H0 S Z G st H->
 xg P pf gl aae n aag bef l i Z T st=O (Z2,T2,dp)->
 (st.w=V->dp.w=V)/\∃Y u A N,kx P ng acall n aag bef l i S T' H=O (Y,u,A)/\Ok ng gl D N T2 u dp A/\dF D G st H N dp A (TW D dp.w) BJ/\oH P ng D G0 bF H0 Y Z2 N dp A
 |[],i,S,Z,G,T,T',st,H,Z2,T2,dp,h,hd,e=>by cases e;exact⟨id,S,T',H,G,Q,h,dF.refl _ _ _ _ _ _,hd⟩
 |o::l,i,S,Z,G,T,T',st,H,Z2,T2,dp,h,hd,e=>by
  rw[xg]at e;split at e
  .rename_i F hw;split at e<;>try cases e
   rename_i r hr;split at e<;>try cases e
   rename_i Z' hz;obtain⟨a,H1,G1,h1,h2,h3,h7,h8,h9⟩:=Rm J h hr;obtain⟨w1,w2⟩:=adN hr;obtain⟨S',hS,aa⟩:=hd.step s0 K h.cA h.gX h3 h7 h8 h9 hz;obtain⟨w3,Y,u,A,N,h4,h5,h6,M⟩:=Yv J s0 K h2 aa e;refine⟨λ y=>w3 (w1 y),Y,u,A,N,?_,h5,h3.trans h6 (λ d k y=>?_) (λ _ _ y=>y) (λ _ _=>trivial) (λ _ _=>trivial),M⟩;.show vi (motive:=λ _=>gw _) _ (DT X (λ r=>DT X (λ S'=>kx P ng acall n aag bef l (i+1) S' (dZ n T' o.dst r.1) r.2) _) (bR P ng acall T' H _)) _=_;rw[Ib h.tmp F];simp_all
   rcases w2 d k y with e|e
   .exact .inl (e.trans h.gX)
   exact .inr (w3 e)
  .rename_i F hw;obtain⟨G1,h2,h3⟩:=Pz h;obtain⟨w3,Y,u,A,N,h4,h5,h6,M⟩:=Yv J s0 K h2 ({hd with mr:=hd.mr.trans h3 (λ _ _ _=>trivial) (λ _ _ _=>trivial) (λ _ F=>F) (λ _ F=>F.elim)}) e;refine⟨w3,Y,u,A,N,?_,h5,h3.trans h6 (λ d k y=>y.elim) (λ _ _ y=>y) (λ _ _=>trivial) (λ _ _=>trivial),M⟩;show vi (motive:=λ _=>gw _) _ _ _=_;rw[Ib h.tmp F,hw];exact h4
  cases e
def aGt:pJ ng gl oc acall:=⟨λ _ _ _ _ _ _ h=>bk,λ _ _ _ _ _ _ h=>bk,λ _ _ _ _ _ _ _ h=>bk⟩
theorem aA3(o:Op):pj W o=[]:=by unfold pj;split<;>rfl
def an8(d:fV):By [] d=false:=by cases d<;>rfl
theorem aEs(u:ir P HL gl aae T st o=O r)(A:mB r.e<=1):r.st=st/\r.src=[]:=by
 unfold ir at u;have D:By HL.take o.dst=false:=an8 _;split at u;.grind[aA3]
 .split at u
  .split at u
   .split at u;.rename_i v b st' y;unfold Ad at y;grind
    cases u
   cases u
  .grind
  cases u
 .grind[mB]
 split at u
 .unfold AT at u;split at u
  .split at u;.split at u<;>cases u;simp[mB]at A
   cases u
  cases u
 unfold vR at u;split at u;.grind[mB]
 .grind[xU,mB]
 .grind[mB]
 cases u
structure zi (ng:R) (gl:bH) (D:R) (G0:Gh) (bF:aG) (H0:aj) (Gu:Gh) (Uqq:VT) (T':aM):Prop where
 ok:Ok ng gl D Gu Uqq T' bF H0
 im:∀u r,Gu.I u=some r->G0.I u=some r
 py:∀d k,Gu.ρ d k=G0.ρ d k\/(cu bF d k).isSome=false
def zi.ae{bF:aG}{U2:VT}{y:aM}(h:zi ng gl D G0 bF H0 Gu Uqq T'){A:Gh}(ok:Ok ng gl D A U2 y bF H0)(g:dF D Gu bF H0 A bF H0 (λ _ _=>False) (λ _=>False)):zi ng gl D G0 bF H0 A U2 y where
 ok:=ok
 im:=λ u r e=>h.im u r (g.qq u r e (ok.cA.lt e).1)
 py:=λ d k=>by
  rcases Nat.lt_trichotomy d D with e|e|e
  .rw[g.py d k e];exact h.py d k
  .subst e;rw[g.qB k id];exact h.py _ k
  right;cases hx:cu bF d k;.rfl
  rename_i c;have:=abC hx;have:=h.ok.gX;omega
theorem zi.Dl{bF:aG}(h:zi ng gl D G0 bF H0 Gu Uqq T')(n:R)(dst:fV)(a:au):∃y,zi ng gl D G0 bF H0 y (fk n Uqq dst (.bp [])) (dZ n T' dst a):=by
 obtain⟨y,h1,h2⟩:=stepT (src:=[]) (v:=.bp []) h.ok ⟨by simp[aJ],λ _ _=>X,λ j es sz c e1 e2=>by grind[ak.cells]⟩
 exact⟨y,h.ae h1 {h2 with rows:=λ u hu=>.inl Q,qB:=λ k _=>h2.qB k id}⟩
def zi.skip{bF:aG}(h:zi ng gl D G0 bF H0 Gu Uqq T')(n:R)(dst:fV):∃y,zi ng gl D G0 bF H0 y (fk n Uqq dst .un) (dZ n T' dst (.tuple [])):=by obtain⟨y,h1,h2⟩:=Pz h.ok;exact⟨y,h.ae h1 {h2 with rows:=λ u hu=>.inl Q,qB:=λ k _=>h2.qB k id}⟩
def oH.free{bF:aG}(h:oH P ng D G0 bF H0 S Z G st H){b:lY}{o:Op}
 (g:dF D G st H G' st' H (kJ (KW (.read b))) (KA (.read b) dst)) (N:∀F:R->oR,(∀u w,G0.I u=O w->F u=O w)->dY P ng T' F o=O a):
 oH P ng D G0 bF H0 (wX i T' o S a) Z G' st' H:=by
 refine⟨h.bM,h.idx,h.mr.trans g (λ _ _ _=>trivial) (λ _ _ _=>trivial) (λ _ A=>A) (λ _ A=>A.elim),h.Q2,h.JL,h.now,h.box,λ r y=>?_⟩;rcases cg.1 y with rfl|y
 .exact .inl N
 .rcases h.reads r y with k|⟨b,m,M,K,J⟩
  .exact .inl k
  exact .inr ⟨b,m,M,K,J⟩
theorem axG{acall:bg}{n:R}{G0:Gh}{bF:aG}{H0:aj}(s0:cH G0 bF H0){S:jf}{Z:iq}(hd:oH P ng D G0 bF H0 S Z G st H)(aa:Ok ng gl D G T T' st H){Gu:Gh}{Uqq:VT}(hu:zi ng gl D G0 bF H0 Gu Uqq T'){o:Oper}{e:rV}{a:au}{H':aj}(A:dK o.op=mB e)(J:bR P ng acall T' H o.op=O (a,H')){q:GS}(y:nG Z.es e (ir P HL gl oc Uqq bF o)=q):
 (∃Y,zi ng gl D G0 bF H0 Y (fk n Uqq o.dst (Bv q)) (dZ n T' o.dst a))/\(∀v,q=O (v,V)->(∃b,e=.read b)/\∀F:R->oR,(∀u w,G0.I u=O w->F u=O w)->dY P ng T' F o.op=O a):=by
 cases hs:ir P HL gl oc Uqq bF o
 .rw[hs]at y;have:q=none:=by rw[<-y];cases e<;>rfl
  subst this;exact⟨hu.Dl n _ a,nofun⟩
 .rename_i r;rw[hs]at y;obtain⟨a0,H1,G1,h1,h2,h3,h4,h5,h6⟩:=Rm (acall:=acall) aGt hu.ok hs
  have go:mB r.e<=1->a0=a->∃Y,zi ng gl D G0 bF H0 Y (fk n Uqq o.dst r.v) (dZ n T' o.dst a):=by
   rintro hc rfl
   obtain⟨e1,e2⟩:=aEs hs hc;have e3:=h6 hc;subst e3;rw[e1,e2]at h2;rw[e1]at h3;refine⟨G1,hu.ae h2 {h3 with rows:=λ u hu=>.inl Q,qB:=λ k _=>h3.qB k ?_}⟩;cases ac:r.e with
   |pure=>exact id
   |read b=>exact id
   |new b=>grind[mB]
   |eO d=>grind[mB]
   |zg=>grind[mB]
  obtain⟨rv,rs,ab,re⟩:=r
  have Dl:q=none->(∃Y,zi ng gl D G0 bF H0 Y (fk n Uqq o.dst (Bv q)) (dZ n T' o.dst a))/\(∀v,q=O (v,V)->(∃b,e=.read b)/\∀F,(∀u w,G0.I u=O w->F u=O w)->dY P ng T' F o.op=O a):=by
   rintro rfl
   exact⟨hu.Dl n _ a,nofun⟩
  cases e with
  |zg=>exact Dl (by rw[<-y];rfl)
  |pure=>
   cases re with
   |pure=>
    subst y;have A:dK _=0:=A
    have:a0=a:=by
     rw[bR,A]at h1 J;cases hp:nU P ng T' _;.rw[hp]at J;cases J
     rename_i x;grind[iG]
    exact⟨go Kq this,nofun⟩
   |_=>exact Dl y.symm
  |read b=>
   cases re with
   |read b0=>
    have A:dK _=1:=A
    have r1:dY P ng T' H.ah.get o.op=O a:=by
     rw[bR,A]at J;cases hp:dY P ng T' _ _;.rw[hp]at J;cases J
     rename_i x;grind[iG]
    cases b0
    .subst y;have N:∀F,(∀u r,G0.I u=O r->F u=O r)->dY P ng T' F _=O a0:=λ F hg=>h5 F λ u r e=>hg u r (hu.im u r e)
     have:a0=a:=by
      have:=N _ λ u r e=>aa.cA.gI u r (hd.mr.im u r e)
      simp_all
     exact⟨go Kq this,λ v _=>⟨⟨b,Q⟩,this▸N⟩⟩
    rename_i p;rw[nG]at y;cases K:lA p 0 Z.es.length Z.es;.grind
    rw[K]at y;subst y;obtain⟨u,k1,k2,k3⟩:=h5
    have M:G0.ρ p.1 p.2=O u:=by
     rcases hu.py p.1 p.2 with e|e
     .grind
     simp_all
    have hb:=hd.box _ _ u k2 M 0 (kG _) K
    have h0:qQ H0.ah.get S.es 0=H0.ah.get:=by
     have:∀es,qQ H0.ah.get es 0=H0.ah.get:=by
      intro es;induction es with
      |nil=>rfl
      |cons x es ih=>grind[JF]
     exact this _
    have:a0=a:=by simp_all
    exact⟨go Kq this,nofun⟩
   |_=>exact Dl y.symm
  |new b=>exact Dl (by rw[<-y];rfl)
  |eO d=>exact Dl (by rw[<-y];rfl)
def VH(ab:pJ ng gl aae acall){n:R}{bF:aG}(s0:cH G0 bF H0)(F:bF.up.length=D):∀{l:dM} {i:R} {S:jf} {Z:iq} {G Gu:Gh} {T Uqq:VT} {T':aM} {st:aG} {H:aj} {Z2:iq} {T2:VT} {dp:aG},Ok ng gl D G T T' st H->oH P ng D G0 bF H0 S Z G st H->zi ng gl D G0 bF H0 Gu Uqq T'->
 yf P pf gl aae n aag bef bF l i Z T Uqq st=O (Z2,T2,dp)->
 (st.w=V->dp.w=V)/\∃S2 y N G2,kx P ng acall n aag bef l i S T' H=O (S2,y,N)/\Ok ng gl D G2 T2 y dp N/\dF D G st H G2 dp N (TW D dp.w) BJ/\oH P ng D G0 bF H0 S2 Z2 G2 dp N
 |[],i,S,Z,G,Gu,T,Uqq,T',st,H,Z2,T2,dp,h,K,hu,e=>by cases e;exact⟨id,S,T',H,G,Q,h,dF.refl _ _ _ _ _ _,K⟩
 |o::l,i,S,Z,G,Gu,T,Uqq,T',st,H,Z2,T2,dp,h,K,hu,e=>by
  simp[yf]at e;split at e
  .rename_i hk hw;split at e<;>try cases e
   rename_i r hr;split at e<;>try cases e
   rename_i Z' J;obtain⟨a,H1,G1,h1,h2,M,h7,h8,h9⟩:=Rm (n:=n) ab h hr;obtain⟨w1,w2⟩:=adN hr;obtain⟨⟨Gv,Y⟩,u⟩:=axG (n:=n) s0 K h hu h7 h1 Q
   have aa:∃S',jt (bef i) i T' o.op S (a,H1)=O S'/\oH P ng D G0 bF H0 S' Z' G1 r.st H1:=by
    generalize hq:nG _ _ _=q at J u
    match q,J,u with
    |none,J,_=>exact K.step s0 F h.cA h.gX M h7 h8 h9 J
    |some (v,W),J,_=>exact K.step s0 F h.cA h.gX M h7 h8 h9 J
    |some (v,V),J,u=>
     cases J;obtain⟨⟨b,hb⟩,hf⟩:=u v Q;rw[hb]at M h7 h9;have hH:=h9 Kq;subst hH;exact⟨wX i T' _ S a,by simp[jt,h7,mB],K.free M hf⟩
   obtain⟨S',hS,ad⟩:=aa;obtain⟨w3,S2,y,N,G2,h4,h5,h6,ac⟩:=VH ab s0 F h2 ad Y e;refine⟨λ A=>w3 (w1 A),S2,y,N,G2,?_,h5,M.trans h6 (λ d k A=>?_) (λ _ _ A=>A) (λ _ _=>trivial) (λ _ _=>trivial),ac⟩;.show vi (motive:=λ _=>gw _) _ (DT X (λ r=>DT X (λ S'=>kx P ng acall n aag bef l (i+1) S' (dZ n T' o.dst r.1) r.2) _) (bR P ng acall T' H _)) _=_;rw[Ib h.tmp hk];simp_all
   rcases w2 d k A with e|e
   .exact .inl (e.trans h.gX)
   exact .inr (w3 e)
  .rename_i hk hw;obtain⟨G1,h2,M⟩:=Pz h;obtain⟨Gv,Y⟩:=hu.skip n _;obtain⟨w3,S2,y,N,G2,h4,h5,h6,ac⟩:=VH ab s0 F h2 ({K with mr:=K.mr.trans M (λ _ _ _=>trivial) (λ _ _ _=>trivial) (λ _ hk=>hk) (λ _ hk=>hk.elim)}) Y e;refine⟨w3,S2,y,N,G2,?_,h5,M.trans h6 (λ d k A=>A.elim) (λ _ _ A=>A) (λ _ _=>trivial) (λ _ _=>trivial),ac⟩;show vi (motive:=λ _=>gw _) _ _ _=_;rw[Ib h.tmp hk,hw];exact h4
  cases e
theorem ava(N:pJ ng gl aae acall){aag:dV}{J:mi}(h:Ok ng gl D G T T' st H){T2:VT}{dp:aG}(e:BL P pf gl aae n aag T st J=O (T2,dp)):
 (st.w=true->dp.w=true)/\∃y A K,kK P ng acall n aag T' H J=O (y,A)/\Ok ng gl D K T2 y dp A/\dF D G st H K dp A (TW D dp.w) BJ:=by
 unfold BL at e;cases J;.exact Yb N h e
 .have fin:∀{x},(∀{Z2} {T2} {dp},x=O (Z2,T2,dp)->(st.w=true->dp.w=true)/\∃S y A K,kx P ng acall n aag.toList (eA aag) aag.toList 0 ⟨[],[],[]⟩ T' H=O (S,y,A)/\Ok ng gl D K T2 y dp A/\dF D G st H K dp A (TW D dp.w) BJ/\oH P ng D G st H S Z2 K dp A)->
   xV aag x=O (T2,dp)->(st.w=true->dp.w=true)/\∃y A K,kK P ng acall n aag T' H true=O (y,A)/\Ok ng gl D K T2 y dp A/\dF D G st H K dp A (TW D dp.w) BJ:=by
   intro x hx e;unfold xV at e;split at e<;>try cases e
   rename_i Z T3 st3;split at e<;>cases e;rename_i ac;obtain⟨w,S,y,A,K,h4,h5,h6,F⟩:=hx Q;refine⟨w,y,A,K,?_,h5,h6⟩;refine Mk ?_;rw[h4,pQ]
   have aa:=by
    have:∀rs,(∀r∈rs,Uk P ng G st H A S Z r)->wK P ng (eA aag) H.ah S.es rs=true:=by
     intro rs;induction rs with
     |nil=>intro _;rfl
     |cons r rs ih=>
      intro hr;show(uE P ng _ _ _ _ _ _ _ X&&wK P ng _ _ _ rs)=true;rw[ih λ x hx=>hr x (cV _ hx),adY];rcases hr r (dJ ..)with k|⟨b,m,k1,k2,k3⟩
      ·
       have hv:∀(Y) (up),Aq (eA aag) r.1 (λ _=>true) Y up=true:=by
        intro Y;induction Y with
        |nil=>simp[Aq]
        |cons z Y ab=>simp[Aq,ab]
       exact Yn F.idx (hv _ _) λ k' M _=>k _ (F.JL k' (F.len▸M))
      refine Yn F.idx (iw.1 ac _ k1) λ k' M ad=>?_
      cases b;.grind[Dx]
      rename_i p;obtain⟨u,row,q1,q2,q3,q4,q5⟩:=k3;exact q3 _ (q4 k' (F.len▸M) ad)
    exact this _ F.reads
   rw[aa]
  cases hA:xV aag _;.rw[hA]at e;exact fin (λ he=>VH N h.cA h.gX h (oH.start h.cA) ⟨h,λ _ _ e=>e,λ _ _=>.inl Q⟩ he) e
  rename_i r;rw[hA]at e;exact fin (λ he=>Yv N h.cA h.gX h (oH.start h.cA) he) (hA.trans e)
end
section
variable{T1:VT}
variable{P:aA}{ng:R}{gl:bH}{G:Gh}{D:R}{T:VT}{T':aM}{st:aG}{H:aj}
def cH.sub(h:cH G st H)(e:∀d k cs,cu st' d k=O cs->cu st d k=O cs):cH G st' H where
 gd:=h.gd
 gI:=h.gI
 box:=λ d k cs g=>h.box d k cs (e d k cs g)
 inj:=λ d k F A cs y u g D=>h.inj d k F A cs y u (e _ _ _ g) (e _ _ _ D)
 aI:=h.aI
 oT:=h.oT
theorem an9(h:Ok ng gl D G T T' st H)(l:EM)(id:R):Ok ng gl D G (zr l id T st).1 T' (zr l id T st).2 H/\dF D G st H G (zr l id T st).2 H (kJ .clean) rZ/\(zr l id T st).2.w=st.w:=by
 unfold zr;split
 .rename_i a b A;have y:∀d k cs,cu {st with cur:=qG b st.cur} d k=O cs->cu st d k=O cs:=by grind[cu,Q0]
  refine⟨⟨h.cA.sub y,λ i v e=>h.tmp i v (Q0 _ _ _ _ e),h.gX,h.jD⟩,?_,Q⟩;refine{dF.refl D G st H _ rZ with live:=λ d k u e F _=>⟨?_,F⟩,sM:=rfl};grind[Option.isSome_iff_exists]
 grind[dF.refl]
structure wN (D:R) (G:Gh) (st:aG) (H:aj) (G':Gh) (st':aG) (H':aj) (tch:EJ):Prop where
 im:bO G.I G'.I
 py:∀d k,d<D->G'.ρ d k=G.ρ d k
 live:∀d k u,(cu st' d k).isSome=true->G'.ρ d k=some u->u<H.ae->(cu st d k).isSome=true/\G.ρ d k=some u
 ae:H.ae<=H'.ae
 rows:∀u,u<H.ae->H'.ah.get u=H.ah.get u\/∃d k,tch d k/\(cu st d k).isSome=true/\G.ρ d k=some u
 qR:∀f s,wS D s->G.own f=some s->G'.own f=some s/\G'.tp f=G.tp f
 sM:st'.up.length=st.up.length
 qq:∀u r,G'.I u=some r->u<H.ae->G.I u=some r\/∃k,(cu st D k).isSome=true/\G.ρ D k=some u
 qf:∀f s,G'.own f=some s->f<H.ae->∃s',G.own f=some s'
 aV:∀f,f<H.ae->G.own f=none->H'.aV.get f=H.aV.get f
def dF.CZ{t:EJ}{n:vH}(g:dF D G st H G' st' H' t n):wN D G st H G' st' H' t:=⟨g.im,g.py,g.live,g.ae,g.rows,g.qR,g.sM,λ u r a b=>.inl (g.qq u r a b),g.qf,g.aV⟩
theorem wN.trans{G1 F G3:Gh}{S P N:aG}{H1 H2 Z:aj}{M K J:EJ}(a:wN D G1 S H1 F P H2 M)(b:wN D F P H2 G3 N Z K)(h1:∀d k,M d k->J d k)(h2:∀d k,K d k->J d k):wN D G1 S H1 G3 N Z J where
 im:=a.im.trans b.im
 py:=λ d k h=>(b.py d k h).trans (a.py d k h)
 live:=λ d k u h e hu=>by obtain⟨e1,e2⟩:=b.live d k u h e (eU hu a.ae);exact a.live d k u e1 e2 hu
 ae:=fI a.ae b.ae
 rows:=λ u hu=>by
  rcases b.rows u (eU hu a.ae)with e|⟨d,k,e1,e2,e3⟩
  .rw[e];rcases a.rows u hu with e|⟨d⟩
   .exact .inl e
   grind
  obtain⟨e4⟩:=a.live d k u e2 e3 hu;grind
 qR:=λ f s h e=>by obtain⟨e1,e2⟩:=a.qR f s h e;obtain⟨e3,e4⟩:=b.qR f s h e1;exact⟨e3,e4.trans e2⟩
 sM:=b.sM.trans a.sM
 qq:=λ u r e hu=>by
  rcases b.qq u r e (eU hu a.ae)with e1|⟨k,e1,e2⟩
  .exact a.qq u r e1 hu
  obtain⟨e3,e4⟩:=a.live D k u e1 e2 hu;exact .inr ⟨k,e3,e4⟩
 qf:=λ f s e y=>by obtain⟨Y,A⟩:=b.qf f s e (eU y a.ae);exact a.qf f Y A y
 aV:=λ f y e=>by
  have h2:F.own f=none:=by
   cases e2:F.own f;.rfl
   rename_i s;obtain⟨Y,A⟩:=a.qf f s e2 y;rw[e]at A;cases A
  rw[b.aV f (eU y a.ae) h2,a.aV f y e]
def M6(G:Gh)(D k u:R)(r:Row):Gh where
 ρ:=λ d y=>if d=D/\y=k then X else G.ρ d y
 I:=λ v=>if v=u then O r else G.I v
 own:=G.own
 tp:=G.tp
def WN:∀(l:be),qx 1 l.length l=l.map λ c=>[c]
 |[]=>rfl
 |c::l=>by show[c]::qx 1 _ l=_;rw[WN l];rfl
def ait{D:R}{s:ak}:∀{T:VT} {i:R},lk (zq D k n s T) i=(lk T i).map (AK D k n s)
 |[],_=>rfl
 |(j,v)::T,i=>by
  show(if j=i then O _ else lk (zq D k n s T) i)=(if j=i then O v else lk T i).map _;by_cases h:j=i;.rw[aY h,aY h];rfl
  rw[aR h,aR h,ait]
theorem aID{iz:aG}(h:Ok ng gl D G T T' st H)(Z:qV k T st=O (T1,iz)):∃G',Ok ng gl D G' T1 T' iz H/\wN D G st H G' iz H (kJ .clean)/\iz.w=st.w:=by
 unfold qV at Z;split at Z<;>try cases Z
 rename_i cs ae;split at Z<;>try cases Z
 rename_i hd;split at Z<;>cases Z;rename_i hn;rw[bq]at hn;obtain⟨n1,n2⟩:=hn;rw[h.gX]at n1 n2;have Y:cu st D k=O cs:=by unfold cu;rw[aY h.gX.symm];exact ae
 obtain⟨u,r,b⟩:=h.cA.box D k cs Y;have F:bO G.I _:=λ v r' e=>by show(if v=u then O r else G.I v)=O r';rw[aR (λ e2=>by rw[e2,b.im]at e;cases e)];exact e
 have K:∀d y A,cu {st with cur:=np k st.cur} d y=O A->cu st d y=O A/\(d≠D\/y≠k):=by
  intro d y A e;unfold cu at e⊢;by_cases J:d=st.up.length
  .rw[aY (J)]at e;rw[aY J];rw[RE]at e;split at e;.cases e
   rename_i hk;exact⟨e,.inr hk⟩
  rw[aR (J)]at e;exact(aR J)▸⟨e,.inl (h.gX▸J)⟩
 have N:∀D',UA D k (dL D' _) (dL D' _):=λ D' d' y u' hk e=>by
  unfold dL at e⊢;split at e;.rename_i S;rw[aY S];show(if d'=D/\y=k then X else G.ρ d' y)=O u';rw[aR bP];exact e
  cases e
 have ab:∀D',D'<=D->mQ (dL D' _) _:=λ D' hD d' y u' e=>by
  have S:d'<D':=by
   unfold dL at e;split at e;.assumption
   cases e
  exact N D' d' y u' (.inl aa) e
 have P:∀{s} {es} {sz} {a},lJ G s es sz a->lJ (M6 G D k u r) s es sz a:=by
  intro s es sz a q;rcases q with q|⟨v,off,r',q1,q2,q3⟩
  .exact .inl q
  exact .inr ⟨v,off,r',q1,F _ _ q2,q3⟩
 refine⟨M6 G D k u r,⟨⟨h.cA.gd,λ v r' e=>?_,λ d y A e=>?_,λ d1 k1 d2 k2 c1 c2 u' e1 e2 e3 e4=>?_,h.cA.aI,λ d y u' e=>?_⟩,λ i v e=>?_,h.gX,h.jD.mono F⟩,?_,Q⟩
 .have e:(if v=u then O r else G.I v)=O r':=e;split at e;.rename_i hv;cases e;exact hv▸b.row
  exact h.cA.gI v r' e
 .obtain⟨e1⟩:=K d y A e;obtain⟨u',r',M⟩:=h.cA.box d y A e1;have hu:u'≠u:=λ e2=>by subst e2;obtain⟨rfl⟩:=h.cA.inj d y D k A cs u' e1 Y M.ref b.ref;grind
  refine⟨u',r',{ref:=?_,row:=M.row,rw:=M.rw,sz:=M.sz,aI:=M.aI,mem:=M.mem,im:=?_,un:=M.un,cells:=?_,cell:=M.cell,own:=λ j es sz a q1 q2=>P (M.own j es sz a q1 q2)}⟩;.show(if d=D/\y=k then X else G.ρ d y)=O u';rw[aR bP];exact M.ref
  .show(if u'=u then O r else G.I u')=X;rw[aR hu];exact M.im
  by_cases J:d=D
  .subst J;refine An (mQ.refl _) F _ _ (GU (N _) _ _ ?_ M.cells);have e2:=by unfold cu at e;rw[aY (h.gX.symm)]at e;exact e
   exact adH n2 e2
  have S:=by have:=abC e1;rw[h.gX]at this;omega
  exact An (ab _ aa) F _ _ M.cells
 .have q1:(if d1=D/\k1=k then X else G.ρ d1 k1)=O u':=e3;have q2:(if d2=D/\k2=k then X else G.ρ d2 k2)=O u':=e4;split at q1;.cases q1
  split at q2;.cases q2
  exact h.cA.inj d1 k1 d2 k2 c1 c2 u' (K _ _ _ e1).1 (K _ _ _ e2).1 q1 q2
 .have e:(if d=D/\y=k then X else G.ρ d y)=O u':=e;split at e;.cases e
  exact h.cA.oT d y u' e
 .have ad:=adD n1 (h.gX▸e);rw[ait]at e;cases hw:lk T i;.rw[hw]at e;cases e
  rename_i w;rw[hw]at e;obtain⟨w1,w2⟩:=h.tmp i w hw
  have plain:v=w->aJ (dL (D+1) (M6 G D k u r).ρ) (M6 G D k u r).I v (ai T' i)/\tH (M6 G D k u r) (.tmp D i) v.cells (ai T' i).cells:=by
   rintro rfl
   exact⟨wW (mQ.refl _) F _ _ (VZ (N _) _ _ ad w1),λ j es sz a q1 q2=>P (w2 j es sz a q1 q2)⟩
  have e9:=by simpa using e
  cases w with
  |ms d y len sz=>
   rw[AK]at e9;split at e9
   .rename_i hc;obtain⟨rfl,rfl,rfl,rfl⟩:=hc;rw[<-e9];obtain⟨u2,q1,q2⟩:=w1;have q1:=KH _ _ _ _ _ q1;rw[h.gX,b.ref]at q1;cases q1;rw[q2];refine⟨?_,(kM aw Q).own _ _⟩;have:=aeD (len:=cs.length) (by rw[aY Q]) (B0 F _ _ (FQ b.cells hd)) aw (.inr b.sz);have e5:=by have:=WN (cs.map eZ);rw[br,lP]at this;exact this
    rw[e5]at this;exact this
   exact plain e9.symm
  |_=>exact plain e9.symm
 refine⟨F,λ d y hd=>?_,λ d y u' e e' _=>?_,aZ _,λ _ _=>.inl Q,λ _ _ _ q=>⟨q,Q⟩,Q,λ v r' e _=>?_,λ f s q _=>⟨s,q⟩,λ _ _ _=>rfl⟩;.show(if d=D/\y=k then X else G.ρ d y)=_;rw[aR aa]
 .have e':(if d=D/\y=k then X else G.ρ d y)=O u':=e';split at e';.cases e'
  obtain⟨A,ac⟩:=tN.1 e;exact⟨by rw[(K _ _ _ ac).1];rfl,e'⟩
 have e:(if v=u then O r else G.I v)=O r':=e;split at e;.rename_i hv;subst hv;exact .inr ⟨k,by rw[Y];rfl,b.ref⟩
 exact .inl e
def agf:∀{l:bG} {G:Gh} {T T1:VT} {st iz:aG},Ok ng gl D G T T' st H->uX l T st=O (T1,iz)->∃G',Ok ng gl D G' T1 T' iz H/\wN D G st H G' iz H (kJ .clean)/\iz.w=st.w
 |[],G,T,T1,st,iz,h,u=>by cases u;exact⟨G,h,(dF.refl D G st H _ rZ).CZ,Q⟩
 |k::l,G,T,T1,st,iz,h,u=>by
  unfold uX at u;split at u;.rename_i M dp y;obtain⟨N,J,F,A⟩:=aID h y;obtain⟨K,b1,b2,b3⟩:=agf J u;exact⟨K,b1,F.trans b2 (λ _ _ e=>e) (λ _ _ e=>e),b3.trans A⟩
  cases u
def at3{o:gw bG}{iz:aG}(h:Ok ng gl D G T T' st H)(u:Oj o T st=O (T1,iz)):∃G',Ok ng gl D G' T1 T' iz H/\wN D G st H G' iz H (kJ .clean)/\iz.w=st.w:=by
 cases o;.cases u;exact⟨G,h,(dF.refl D G st H _ rZ).CZ,Q⟩
 rename_i l;exact agf h u
theorem WI(ab:pJ ng gl aae acall):∀(m:R) (c:Code) {G:Gh} {T:VT} {T':aM} {st:aG} {H:aj} {e:oP} {T2:VT} {dp:aG},Ok ng gl D G T T' st H->ic P pf gl aae n m c T st=O (e,T2,dp)->
 (st.w=V->dp.w=V)/\∃J H2 G2,dE P ng acall n m c T' H=O (e,J,H2)/\Ok ng gl D G2 T2 J dp H2/\wN D G st H G2 dp H2 (TW D dp.w):=by
 intro m;induction m with
 |zero=>intro c G T T' st H e T2 dp _ h;cases h
 |succ m ih=>
  intro c G T T' st H e T2 dp u h;have tr:∀{M G2 G3} {s1 s2 s3} {K H2 H3},(s2.w=V->s3.w=V)->wN D M s1 K G2 s2 H2 _->wN D G2 s2 H2 G3 s3 H3 _->wN D M s1 K G3 s3 H3 (TW D _):=λ hw a b=>a.trans b (TW.mono hw) (λ _ _ A=>A)
  cases c with
  |skip=>cases h;exact⟨id,T',H,G,Q,u,(dF.refl D G st H _ BJ).CZ⟩
  |exit id=>cases h;exact⟨λ A=>A,T',H,G,Q,u,(dF.refl D G st H _ BJ).CZ⟩
  |ret=>cases h;exact⟨λ A=>A,T',H,G,Q,u,(dF.refl D G st H _ BJ).CZ⟩
  |region id aag d=>
   rw[ic]at h;split at h<;>try cases h
   rename_i T0 bF hz;obtain⟨G0,z1,z2,z3⟩:=at3 u hz;split at h<;>try cases h
   rename_i T1 iz hr;simp at h;obtain⟨rfl,h⟩:=h;have e1:T2=(zr pf.out id T1 iz).1:=by rw[h]
   have e2:dp=(zr pf.out id T1 iz).2:=by rw[h]
   subst e1 e2;obtain⟨w,J,H2,G2,h4,h5,h6⟩:=ava ab z1 hr;obtain⟨t1,t2,t3⟩:=an9 h5 _ id;refine⟨λ A=>t3▸w (z3▸A),J,H2,G2,?_,t1,z2.trans (h6.trans t2 (λ d k A=>t3▸A) (λ _ _ A=>A.elim) (λ _ _=>trivial) (λ _ _=>trivial)).CZ (λ _ _ A=>A.elim) (λ _ _ A=>A)⟩;show rG _=_;rw[h4];rfl
  |seq a b=>
   rw[ic]at h;split at h;.rename_i T1 iz ha;obtain⟨N,F,K,M,Z,Y,S⟩:=ih a u ha;obtain⟨w2,J,H2,G2,b1,b2,b3⟩:=ih b Y h;refine⟨λ A=>w2 (N A),J,H2,G2,?_,b2,tr w2 S b3⟩;show andThen _ (dE P ng acall n m a T' H)=_;exact Z▸b1
   rename_i aa;obtain⟨N,F,K,M,Z,Y,S⟩:=ih a u h;refine⟨N,F,K,M,?_,Y,S⟩;show andThen _ (dE P ng acall n m a T' H)=_;rw[Z];cases e with
   |normal=>exact(aa T2 dp h).elim
   |exit id=>rfl
   |ret=>rfl
  |cond x a b=>
   rw[ic]at h;split at h;.rename_i hx;obtain⟨y,y1,y2,_⟩:=jk u.tmp u.jD hx;obtain⟨N,F,K,M,Z,Y,S⟩:=ih a u h;refine⟨N,F,K,M,?_,Y,S⟩;show oL _ _ _=_;rw[y1,y2.1];exact Z
   .rename_i hx;obtain⟨y,y1,y2,_⟩:=jk u.tmp u.jD hx;obtain⟨N,F,K,M,Z,Y,S⟩:=ih b u h;refine⟨N,F,K,M,?_,Y,S⟩;show oL _ _ _=_;rw[y1,y2.1];exact Z
   cases h
  |block id a=>
   rw[ic]at h;split at h
   .rename_i j T1 iz ha;obtain⟨N,F,K,M,Z,Y,S⟩:=ih a u ha;split at h;.cases h;refine⟨N,F,K,M,?_,Y,S⟩;show nN id (dE P ng acall n m a T' H)=_;grind[nN,Nat.beq_refl]
    cases h;refine⟨N,F,K,M,?_,Y,S⟩;show nN id (dE P ng acall n m a T' H)=_;grind[nN,Nat.eq_of_beq_eq_true]
   rename_i aa;obtain⟨N,F,K,M,Z,Y,S⟩:=ih a u h;refine⟨N,F,K,M,?_,Y,S⟩;show nN id (dE P ng acall n m a T' H)=_;rw[Z];cases e with
   |exit j=>exact(aa j T2 dp h).elim
   |normal=>rfl
   |ret=>rfl
  |loop a=>
   rw[ic]at h;obtain⟨t1,t2,t3⟩:=an9 u _ _;split at h;.rename_i T1 iz ha;obtain⟨N,F,K,M,Z,Y,S⟩:=ih a t1 ha;obtain⟨w2,J,H2,G2,b1,b2,b3⟩:=ih _ Y h;refine⟨λ A=>w2 (N (t3▸A)),J,H2,G2,?_,b2,t2.CZ.trans (tr w2 S b3) (λ _ _ A=>A.elim) (λ _ _ A=>A)⟩;show andThen _ (dE P ng acall n m a T' H)=_;exact Z▸b1
   rename_i aa;obtain⟨N,F,K,M,Z,Y,S⟩:=ih a t1 h;refine⟨λ A=>N (t3▸A),F,K,M,?_,Y,t2.CZ.trans S (λ _ _ A=>A.elim) (λ _ _ A=>A)⟩;show andThen _ (dE P ng acall n m a T' H)=_;rw[Z];cases e with
   |normal=>exact(aa T2 dp h).elim
   |exit id=>rfl
   |ret=>rfl
  |rangeFunc _ _ _ _=>cases h
  |scope _=>cases h
  |label _=>cases h
  |goto _=>cases h
  |refuse _=>cases h
end
section
variable{S1:gC}{abase:bg}
variable{P:aA}{ng:R}{gl:bH}{G:Gh}{D:R}{T:VT}{T':aM}{st:aG}{H:aj}{ρ:Bx}{I:Im}
theorem ahb:∀(u:aF) (i:R) (T:aM) (j:R),ai (eH u i T) j=if i<=j/\j<i+u.length then(u[j-i]?).getD (.tuple [])else ai T j
 |[],i,T,j=>by grind[eH]
 |v::u,i,T,j=>by rw[eH,ahb u _];grind[Fi,Tr.jg]
theorem anR:∀(i:R) (l:be) (j:R) (v:ak),lk (vo i l) j=O v->i<=j/\l[j-i]? =O v
 |_,[],_,_,h=>by cases h
 |i,w::l,j,v,h=>by
  rw[vo,CB]at h;split at h;.rename_i e;cases h;subst e;simp
  obtain⟨h1⟩:=anR _ l j v h;grind
def aGu(h:dg v=v):tw v.cells aah:=h▸ur
theorem amU(y:bu (dL D G.ρ) G.I args aah)(J:args.map dg=args):tJ G D (vo 0 args) (eH aah 0 .nil):=by intro i v e;obtain⟨_,h2⟩:=anR 0 args i v e;rw[Ou]at h2;obtain⟨a,u,F⟩:=J9 y h2;have A:=(pC.1 u).1;rw[ahb,aY aa,Ou,u];refine⟨wW (UY (mS _) _) (bO.refl _) _ _ F,(aGu ?_).own _ _⟩;grind
theorem aJS(h:cH G st H){x:ak}{Z:au}{b:lY}(hx:aJ (dL (D+1) G.ρ) G.I x Z)(y:Ad P W st t x=O (v,b,st')):∃a,cr P H.ah.get t Z=O a/\oX (dL (D+1) G.ρ) G.I v a:=by
 unfold Ad at y;split at y;.split at y<;>cases y;rename_i w m M;obtain⟨u,o,r,rfl,h2,h3,Y⟩:=hx;obtain⟨a,J,K,_⟩:=Q1 M (h.gI u r h2) h3 (Gq Y) (Io Y).2.2;exact⟨a,J,su K,ur⟩
 .rename_i d k off;split at y<;>try cases y
  rename_i cs S;split at y<;>cases y;rename_i w m M;obtain⟨u,hu,rfl⟩:=hx;have ac:d<D+1:=by grind[dL]
  have ab:=KH _ _ _ _ _ hu;obtain⟨u2,r,F⟩:=h.box d k cs S;have:u2=u:=by have:=F.ref;grind
  subst this;have A:=sQ F.cells;have N:bu (dL (d+1) G.ρ) G.I cs ((r.cells.drop 0).take cs.length):=by rw[gU,<-A,List.take_length];exact F.cells
  obtain⟨a,J,K,_⟩:=Q1 M F.row aa N F.cell;simp at J;exact⟨a,J,su (wW (UY aa _) (bO.refl _) _ _ K),ur⟩
 cases y
theorem Sd(h:cH G st H)(y:tJ G D T T'):∀{rs:B ResultVar} {l:be},zd P st T rs=O l->∃aah,eG P H.ah.get T' rs=O aah/\bu (dL (D+1) G.ρ) G.I l aah/\
 ∀v a,l=[v]->aah=[a]->tw v.cells a.cells\/∃t,tH G (.tmp D t) v.cells a.cells
 |[],l,e=>by cases e;exact⟨[],Q,lX.2 Q,nofun⟩
 |.tmp t::rs,l,e=>by
  rw[zd]at e;split at e;.rename_i A u;obtain⟨aah⟩:=Sd h y u;grind[PG,eG,bJ]
  cases e
 |.cell a t::rs,l,e=>by
  rw[zd]at e;split at e;.rename_i v b s A F u;obtain⟨aah,h1,h2⟩:=Sd h y u;obtain⟨c,h5,K,J⟩:=aJS h (PG y a).1 F;grind[eG,bJ]
  cases e
theorem Nb(h:aJ ρ I v a):aJ ρ0 I (po v) a:=by
 cases v with
 |sc b=>exact h
 |sl es o=>exact h
 |agg cs=>
  rw[po];split;.rw[aJ]at h⊢;grind[Pm,MC,TA]
  simp[aJ]
 |fn f cs=>
  cases cs;.exact h
  rename_i c cs;simp[aJ,po]
 |_=>simp[aJ,po]
def Un{s:R->nq}(h:tH G s v.cells a.cells):tH G s (po v).cells a.cells:=by
 cases v with
 |sc b=>exact h
 |sl es o=>exact h
 |agg cs=>
  rw[po];split;.exact XG.own _ _
  exact(kM aw Q).own _ _
 |fn f cs=>
  cases cs;.exact h
  rename_i c cs;exact(kM (by simp[po]) Q).own _ _
 |_=>exact(kM (by simp[po]) Q).own _ _
def abH:∀{l:be} {aah:aF},bu ρ I l aah->bu ρ0 I (l.map λ v=>dg (po v)) aah
 |[],_,h=>h
 |v::l,_,h=>by obtain⟨c,cs,rfl,h1,h2⟩:=bJ.1 h;exact bJ.2 ⟨c,cs,Q,su (Nb h1),abH h2⟩
def Dg(D t:R):nq->uy
 |.tmp d i j=>if d=D then(if i=t then O (.tmp D 0 j)else X)else O (.tmp d i j)
 |s=>O s
theorem agW(K:pJ ng gl aae acall){pol:pz}{f:ck}{w:mi}(F:yB P pol gl aae m f args S=O (v,S1,w))(hs:args.map dg=args)
 (hv:cH G (eJ S) H) (hg:mJ ng gl G) (hr:bu (dL S.length G.ρ) G.I args aah) (ad:∀d k,(cu (eJ S) d k).isSome=V->w=V->kJ (rY dt) d k):
 ∃a H' G',fp P ng acall f aah H (a,H')/\cH G' (eJ S1) H'/\dF S.length G (eJ S) H G' (eJ S1) H' (kJ (rY dt)) (λ _=>True)/\aJ ρ0 G'.I v a/\tH G' (.tmp S.length 0) v.cells a.cells:=by
 unfold yB at F;split at F<;>try cases F
 rename_i fn hf;split at F<;>try cases F
 rename_i c hc;split at F<;>try cases F
 rename_i e T2 dp aa ab;split at F<;>try cases F
 rename_i l hl;obtain⟨hw,ac,H2,G2,e1,e2,e3⟩:=WI K m c ⟨hv,amU hr hs,rfl,hg⟩ ab;obtain⟨rs,r1,r2,r3⟩:=Sd (P:=P) e2.cA e2.tmp hl;have M:aah.length=args.length:=sQ hr;have Y:=e2.gX;have J:∀d k cs,cu (eJ dp.up) d k=O cs->cu dp d k=O cs:=by intro d k cs e;rw[Bu]at e;unfold cu;rw[aR (by have:=rF e;omega)];exact e
 have Z:∀k,cu (eJ S) S.length k=none:=by
  intro k;rw[Bu];cases e:jW S S.length k;.rfl
  rename_i cs;have:=rF e;omega
 have mr:∀t,dF S.length G (eJ S) H (ig G2 (Dg S.length t)) (eJ dp.up) H2 (kJ (rY dt)) (λ _=>True):=by
  intro t;refine⟨e3.im,e3.py,λ k hk=>(hk sp).elim,λ d k u a b c=>?_,e3.ae,λ u hu=>?_,λ f s a b=>?_,Y,λ u r a b=>(e3.qq u r a b).elim id λ ⟨k,q,_⟩=>(by rw[Z]at q;cases q),λ f s a b=>?_,e3.aV⟩;.refine e3.live d k u ?_ b c;obtain⟨cs,K⟩:=tN.1 a;rw[J d k cs K];rfl
  .rcases e3.rows u hu with q|⟨d,k,q1,q2,q3⟩
   .exact .inl q
   rcases q1 with q1|q1
   .grind
   grind
  .obtain⟨q1,q2⟩:=e3.qR f s a b;refine⟨?_,q2⟩;show(G2.own f).bind _=O s;rw[q1];cases s with
   |tmp d i j=>
    have:d<S.length:=a;grind[Dg]
   |box _ _ _=>exact a.elim
   |up s=>rfl
  obtain⟨s',q⟩:=Ei a;exact e3.qf f s' q b
 have D:fp P ng acall f aah H (qc rs,H2):=by
  refine⟨fn,c,m,e,ac,rs,hf,hc,?_,λ id he=>?_,r1,rfl⟩;.rw[M];exact e1
  subst he;exact aa id rfl
 have A:∀t,cH (ig G2 (Dg S.length t)) (eJ dp.up) H2:=λ t=>(e2.cA.sub J).ig λ _ _ _=>rfl
 match l,rs,r2,r3 with
 |[],rs,r2,r3=>
  obtain rfl:=lX.1 r2;exact⟨_,_,_,D,A 0,mr 0,by simp[rQ,aJ],(kM (by simp[rQ]) rfl).own _ _⟩
 |[v],rs,r2,r3=>
  obtain⟨a,N,rfl,q1,q2⟩:=bJ.1 r2;obtain rfl:=lX.1 q2;rcases r3 v a rfl rfl with q|⟨t,q⟩
  .exact⟨_,_,_,D,A 0,mr 0,Nb q1,Un (q.own _ _)⟩
  refine⟨_,_,_,D,A t,mr t,Nb q1,Un λ j es sz c x y=>(q j es sz c x y).ig ?_⟩;simp only[Dg,KI]
 |v::v2::l,rs,r2,r3=>
  obtain⟨a,N,rfl,q1,q2⟩:=bJ.1 r2;obtain⟨a2,N,rfl,q3,q4⟩:=bJ.1 q2;refine⟨_,_,_,D,A 0,mr 0,?_,(kM (by simp[rQ]) rfl).own _ _⟩;have:=abH r2;show aJ ρ0 _ (.bp _) (.tuple _);simp only[aJ];exact .inr ⟨_,rfl,this⟩
def aEg{f:ck}(h:Am f=V):GZ f args S=none:=by have:=cI h;subst this;rfl
structure aKp (ng:R) (gl:bH) (bset:uk) (base:fi) (abase:bg):Prop where
 some_:∀f args v,bset f=true->base f args=some v->args.any ak.open=false->args.map dg=args->∀G H aah,cH G (eJ []) H->mJ ng gl G->bu ρ0 G.I args aah->iV 0 G [] H (abase f aah H) v [] false
 open_:∀f args S v,bset f=true->GZ f args S=some v->args.map dg=args->∀G H aah,cH G (eJ S) H->mJ ng gl G->bu (dL S.length G.ρ) G.I args aah->iV S.length G S H (abase f aah H) v S false
 none_:∀f aah H,bset f=false->abase f aah H=none
 agN:∀f,Am f=true->bset f=true
 U6:∀f args v,Am f=true->base f args=some v->args.any ak.open=false->args.map dg=args->∃es,v=.sl es (some 1)/\∀G H aah,cH G (eJ []) H->mJ ng gl G->bu ρ0 G.I args aah->∃H' cells,abase f aah H=some (.slice H.ae 0 es.length none,H')/\HEq (alloc H cells true 1) H'/\dq G.I es.flatten cells
theorem iV.sX{D:R}{f:ck}(h:iV D G S H (abase f aah H) v S1 dt):iV D G S H (tI P ng abase acall f aah H) v S1 dt:=by obtain⟨a,H',G',h1,h2⟩:=h;exact⟨a,H',G',ahj h1,h2⟩
def iV.base{f:ck}(h:iV 0 G [] H (abase f aah H) v [] false):iV 0 G [] H (tI P ng abase acall f aah H) v [] false:=by obtain⟨a,H',G',h1,h2⟩:=h;exact⟨a,H',G',ahj h1,h2⟩
theorem agt(ρ:Bx):dL 0 ρ=ρ0:=by funext d k;simp[dL,ρ0]
end
section
variable{a:be}{r:TC}
variable{P:aA}{gl:bH}
def yN(L:eE)(calls:aEI):Prop:=∀f a S r,L f a S=O r->∃m,∀u,m<=u->calls u f a S=O r
def asp(hL:yN L calls){T:VT}{st:aG}{f:eN}{args:uF}{r:VR}(h:xU P gl L T st f args=O r):∃m,∀u,m<=u->xU P gl (calls u) T st f args=O r:=by
 unfold xU at h⊢;split at h
 .split at h
  .split at h;.rename_i v F S d A;obtain⟨m⟩:=hL _ _ _ _ A;exact⟨m,λ u y=>by simp_all⟩
   cases h
  cases h
 cases h
def ago(hL:yN L calls){T:VT}{st:aG}{o:Op}{r:VR}(h:vR P gl L T st o=O r):∃m,∀u,m<=u->vR P gl (calls u) T st o=O r:=by
 unfold vR at h⊢;split at h;.simp_all
 .exact asp hL h
 .simp_all
 cases h
def aau(hL:yN L calls){pf:mh}{T:VT}{st:aG}{r:VR}(h:ir P pf gl L T st o=O r):∃m,∀y,m<=y->ir P pf gl (calls y) T st o=O r:=by
 unfold ir at h⊢;split at h;.simp_all
 .simp_all
 .simp_all
 split at h
 .have D:=h;unfold AT at h;split at h;.rename_i es src iz A;obtain⟨m,hm⟩:=ago hL A;refine⟨m,λ y u=>?_⟩;rw[hm y u,<-A];exact D
  cases h
 obtain⟨m,hm⟩:=ago hL h;exact⟨m,λ y u=>(hm y u)⟩
theorem Zj(hL:yN L calls){pf:mh}{n:R}:∀{l:dM} {T:VT} {st:aG} {r:VT×aG},Aa P pf gl L n aag l T st=O r->∃m,∀u,m<=u->Aa P pf gl (calls u) n aag l T st=O r
 |[],T,st,r,h=>⟨0,λ _ _=>h⟩
 |o::l,T,st,r,h=>by
  unfold Aa at h⊢;split at h
  .split at h;.rename_i x hx;obtain⟨A⟩:=aau hL hx;obtain⟨y⟩:=Zj hL h;refine⟨max A y,λ u D=>?_⟩;grind
   cases h
  .exact Zj hL h
  cases h
theorem acy(hL:yN L calls){pf:mh}{n:R}:∀{l:dM} {i:R} {Z:iq} {T:VT} {st:aG} {r:iq×VT×aG},xg P pf gl L n aag bef l i Z T st=O r->∃m,∀u,m<=u->xg P pf gl (calls u) n aag bef l i Z T st=O r
 |[],i,Z,T,st,r,h=>⟨0,λ _ _=>h⟩
 |o::l,i,Z,T,st,r,h=>by
  unfold xg at h⊢;split at h
  .split at h
   .rename_i x hx;split at h;.obtain⟨A⟩:=aau hL hx;obtain⟨y⟩:=acy hL h;refine⟨max A y,λ u D=>?_⟩;grind
    cases h
   cases h
  .exact acy hL h
  cases h
theorem acV(hL:yN L calls){pf:mh}{n:R}{bF:aG}:∀{l:dM} {i:R} {Z:iq} {T Uqq:VT} {st:aG} {r:iq×VT×aG},yf P pf gl L n aag bef bF l i Z T Uqq st=O r->∃m,∀u,m<=u->yf P pf gl (calls u) n aag bef bF l i Z T Uqq st=O r
 |[],i,Z,T,Uqq,st,r,h=>⟨0,λ _ _=>h⟩
 |o::l,i,Z,T,Uqq,st,r,h=>by
  simp[yf]at h⊢;split at h
  .split at h
   .rename_i x hx;split at h;.obtain⟨A⟩:=aau hL hx;obtain⟨y⟩:=acV hL h;refine⟨max A y,λ u D=>?_⟩;grind
    cases h
   cases h
  .exact acV hL h
  cases h
def abu{aae:eE}{pf:mh}{n:R}{bF:aG}:∀{l:dM} {i:R} {Z F:iq} {T Uqq:VT} {st:aG} {r y:iq×VT×aG},xg P pf gl aae n aag bef l i Z T st=O r->yf P pf gl aae n aag bef bF l i F T Uqq st=O y->r.2=y.2
 |[],i,Z,F,T,Uqq,st,r,y,h,u=>by cases h;cases u;rfl
 |o::l,i,Z,F,T,Uqq,st,r,y,h,u=>by
  rw[xg]at h;rw[yf]at u;split at h
  .rename_i D A;rw[D,A]at u;split at h
   .rename_i x hx;simp[hx]at u;split at h
    .split at u;.exact abu h u
     cases u
    cases h
   cases h
  .rename_i D A;rw[D,A]at u;exact abu h u
  cases h
theorem abO{aag:dV}{x:sT}{r:VT×aG}(h:xV aag x=O r):∃Z,x=O (Z,r):=by unfold xV at h;grind
def aF1(hL:yN L calls){pf:mh}{n:R}{aag:dV}{T:VT}{st:aG}{d:mi}{r:VT×aG}(h:BL P pf gl L n aag T st d=O r):∃m,∀y,m<=y->BL P pf gl (calls y) n aag T st d=O r:=by
 unfold BL at h⊢;cases d;.exact Zj hL h
 cases D:xV aag _
 .rw[D]at h;have h:xV aag _=O r:=h;obtain⟨Z,A⟩:=abO h;obtain⟨m,hm⟩:=acV hL A;refine⟨m,λ y u=>?_⟩;have J:=hm y u;rw[J,<-A,h];cases hx:xV aag _;.rfl
  rename_i x;obtain⟨K,F⟩:=abO hx;exact fP O (abu F J)
 rename_i x;rw[D]at h;cases h;obtain⟨Z,A⟩:=abO D;obtain⟨m,hm⟩:=acy hL A;exact⟨m,λ y u=>by rw[hm y u,<-A,D];rfl⟩
theorem anb(hL:yN L calls){pf:mh}{n:R}:∀(k:R) (c:Code) (T:VT) (st:aG) (r:jH),ic P pf gl L n k c T st=O r->∃m,∀F u,m<=F->k<=u->ic P pf gl (calls F) n u c T st=O r:=by
 intro k;induction k with
 |zero=>intro c T st r h;cases h
 |succ k K=>
  intro c T st r h;have J:∀u,k+1<=u->∃j,u=j+1/\k<=j:=λ u A=>⟨u- 1,aa,aa⟩
  cases c with
  |skip=>exact⟨0,λ F u _ A=>by obtain⟨j,rfl,S⟩:=J u A;exact h⟩
  |exit id=>exact⟨0,λ F u _ A=>by obtain⟨j,rfl,S⟩:=J u A;exact h⟩
  |ret=>exact⟨0,λ F u _ A=>by obtain⟨j,rfl,S⟩:=J u A;exact h⟩
  |region id aag d=>
   rw[ic]at h;split at h
   .rename_i T0 bF Z;split at h;.rename_i T' st' hr;obtain⟨m,hm⟩:=aF1 hL hr;refine⟨m,λ F u y A=>?_⟩;obtain⟨j,rfl,S⟩:=J u A;simp only[ic,Z,hm F y];exact h
    cases h
   cases h
  |seq a b=>
   rw[ic]at h;split at h;.rename_i Y iz M;obtain⟨D⟩:=K a _ _ _ M;obtain⟨N⟩:=K b _ _ _ h;refine⟨max D N,λ F u y A=>?_⟩;grind[ic]
   obtain⟨D⟩:=K a _ _ _ h;refine⟨D,λ F u y A=>?_⟩;grind[ic]
  |cond x a b=>
   rw[ic]at h;split at h;.obtain⟨D⟩:=K a _ _ _ h;refine⟨D,λ F u y A=>?_⟩;grind[ic]
   .obtain⟨D,h1⟩:=K b _ _ _ h;refine⟨D,λ F u y A=>?_⟩;grind[ic]
   cases h
  |block id a=>
   rw[ic]at h;split at h;.rename_i i Y iz M;obtain⟨D,h1⟩:=K a _ _ _ M;refine⟨D,λ F u y A=>?_⟩;grind[ic]
   obtain⟨D,h1⟩:=K a _ _ _ h;refine⟨D,λ F u y A=>?_⟩;grind[ic]
  |loop a=>
   rw[ic]at h;split at h;.rename_i Y iz M;obtain⟨D,h1⟩:=K a _ _ _ M;obtain⟨N,h2⟩:=K _ _ _ _ h;refine⟨max D N,λ F u y A=>?_⟩;grind[ic]
   obtain⟨D,h1⟩:=K a _ _ _ h;refine⟨D,λ F u y A=>?_⟩;grind[ic]
  |rangeFunc _ _ _ _=>cases h
  |scope _=>cases h
  |label _=>cases h
  |goto _=>cases h
  |refuse _=>cases h
def PV(hL:yN L calls){pol:pz}{f:ck}(h:yB P pol gl L k f args S=O r):∃m,∀u y,m<=u->k<=y->yB P pol gl (calls u) y f args S=O r:=by
 unfold yB at h⊢;split at h;.cases h
 split at h;.cases h
 split at h<;>try cases h
 rename_i e T st A F;obtain⟨m⟩:=anb hL _ _ _ _ _ F;refine⟨m,λ u y D J=>?_⟩;simp_all
def aH2(hL:yN L calls){pol:pz}{f:ck}(h:DO P pol gl L k f args S=O r):∃m,∀u y,m<=u->k<=y->DO P pol gl (calls u) y f args S=O r:=by
 unfold DO at h⊢;split at h
 .split at h;.rename_i v J w D;obtain⟨m⟩:=PV hL D;exact⟨m,λ u y A F=>by simp_all⟩
  cases h
 exact PV hL h
variable{pol:pz}{bset:uk}{base:fi}
def amk:∀(m:R) (f:ck) (a:be) (S:gC) (r:TC),rC P pol gl bset base m f a S=O r->rC P pol gl bset base (m+1) f a S=O r
 |0,_,_,_,_,h=>by cases h
 |m+1,f,a,S,r,h=>by
  unfold rC at h⊢;split at h;.exact h
  obtain⟨k,u⟩:=aH2 (λ f a S r h=>⟨0,λ _ _=>amk m f a S r h⟩) h;exact u k _ (aZ _) (mS _)
theorem Wy(u:m<=k){f:ck}(h:rC P pol gl bset base m f a S=O r):rC P pol gl bset base k f a S=O r:=by
 obtain⟨d,rfl⟩:=Oy u;clear u;induction d with
 |zero=>exact h
 |succ d y=>exact amk _ _ _ _ _ y
open Classical in
noncomputable def vω(P:aA)(pol:pz)(gl:bH)(bset:uk)(base:fi):eE:=λ f a S=>if h:∃r m,rC P pol gl bset base m f a S=O r then O (acg h)else X
theorem Lp{f:ck}:vω P pol gl bset base f a S=O r↔∃m,rC P pol gl bset base m f a S=O r:=by
 unfold vω;constructor
 .intro h;split at h;.grind
  cases h
 rintro⟨m,h⟩
 have u:∃r m,rC P pol gl bset base m f a S=O r:=⟨r,m,h⟩;obtain⟨k⟩:=Et u;have a:=Wy (wU m k) h;grind[Wy,adw]
def LN:yN (vω P pol gl bset base) (rC P pol gl bset base):=λ f a S r h=>by obtain⟨m,hm⟩:=Lp.1 h;exact⟨m,λ y u=>Wy u hm⟩
def CQ(P:aA)(pf:mh)(gl:bH)(aae:eE)(n:R)(c:Code)(T:VT)(st:aG):qv:=open Classical in if h:∃r m,ic P pf gl aae n m c T st=O r then O (acg h)else X
variable{pf:mh}{aae:eE}{n:R}{T:VT}{st:aG}
theorem aep(u:m<=k){c:Code}{r:jH}(h:ic P pf gl aae n m c T st=O r):ic P pf gl aae n k c T st=O r:=by obtain⟨j,y⟩:=anb (λ f a S r h=>⟨0,λ _ _=>h⟩) _ _ _ _ _ h;exact y j k (aZ _) u
theorem Ll{c:Code}{r:jH}:CQ P pf gl aae n c T st=O r↔∃m,ic P pf gl aae n m c T st=O r:=by
 unfold CQ;constructor
 .intro h;split at h;.grind
  cases h
 rintro⟨m,h⟩
 have u:∃r m,ic P pf gl aae n m c T st=O r:=⟨r,m,h⟩;obtain⟨k⟩:=Et u;have a:=aep (wU m k) h;grind[aep,adw]
theorem Dp{α:Type}{a b:gw α}(h:∀r,a=O r↔b=O r):a=b:=by
 cases a
 .cases b;.rfl
  rename_i x;exact((h x).2 Q)
 rename_i x;grind
def wO(k:VT->aG->qv):qv->qv
 |O (.normal,T,st)=>k T st
 |r=>r
def Uq(a b:qv):fN->qv
 |O (.sc (.bool V))=>a
 |O (.sc (.bool W))=>b
 |_=>X
def R8(id:R):qv->qv
 |O (.exit j,T,st)=>if j=id then O (.normal,T,st)else O (.exit j,T,st)
 |r=>r
def GN(P:aA)(rs:B ResultVar):qv->Cb
 |O (.exit _,_,_)=>X
 |O (_,T,st)=>match zd P st T rs with
  |O l=>O (rQ l,st.up,st.w)
  |X=>X
 |X=>X
theorem aoN{f:ck}{c:Code}(u:P.funcs[f]? =O fn)(y:fn.body=O c):yB P pol gl aae m f args S=GN P fn.results.toList (ic P (pol f) gl aae (args.length+(fn.ntmps-args.length)) m c (vo 0 args) (ez [] S)):=by grind[yB,GN]
theorem aBA{f:ck}{c:Code}(A:P.funcs[f]? =O fn)(D:fn.body=O c)(F:bset f=W)
 (h:GN P fn.results.toList (CQ P (pol f) gl (vω P pol gl bset base) (args.length+(fn.ntmps-args.length)) c (vo 0 args) (ez [] S))=O r) (y:args.any ak.open=V):vω P pol gl bset base f args S=O r:=by
 cases u:CQ P _ gl _ _ c _ _;.rw[u]at h;cases h
 .rename_i s;obtain⟨k⟩:=Ll.1 u;obtain⟨m⟩:=PV LN (show yB P pol gl (vω P pol gl bset base) k f args S=O r by grind[aoN]);refine Lp.2 ⟨max m k+1,?_⟩;grind[rC,DO]
theorem aGp{f:ck}{c:Code}{S':gC}{w:mi}(A:P.funcs[f]? =O fn)(D:fn.body=O c)(F:bset f=W)
 (h:GN P fn.results.toList (CQ P (pol f) gl (vω P pol gl bset base) (args.length+(fn.ntmps-args.length)) c (vo 0 args) (ez [] []))=O (v,S',w)) (y:args.any ak.open=W):vω P pol gl bset base f args S=O (v,S,W):=by
 cases u:CQ P _ gl _ _ c _ _;.rw[u]at h;cases h
 .rename_i s;obtain⟨k⟩:=Ll.1 u;obtain⟨m⟩:=PV LN (show yB P pol gl (vω P pol gl bset base) k f args []=O (v,S',w) by grind[aoN]);refine Lp.2 ⟨max m k+1,?_⟩;grind[rC,DO]
def sZ{f:ck}(y:bset f=V)(h:base f args=O v)(u:args.any ak.open=W):vω P pol gl bset base f args S=O (v,S,W):=Lp.2 ⟨1,by simp[rC,y,u,h]⟩
end
inductive eK where
 |t (i:R)
 |i (n:U)
 |b (x:mi)
 |v (x:ak)
 |g (n:R)
 |f (n:R)
abbrev xB:=B (R×eK)
abbrev wH:=B eK
abbrev Eh:=gw eK
def cq(gl:bH)(T:VT):eK->fN
 |.t i=>O (mq T i)
 |.i n=>O (.sc (.int .i64 n))
 |.b x=>O (.sc (.bool x))
 |.v x=>O x
 |.g n=>match gl n with|O cs=>O (.rp cs 0)|X=>X
 |.f n=>O (.fn n [])
def vK(gl:bH)(T:VT):wH->rI
 |[]=>O []
 |x::l=>match cq gl T x,vK gl T l with
  |O a,O r=>O (a::r)
  |_,_=>X
def ql(gl:bH)(T:VT):xB->gw q9
 |[]=>O []
 |(i,x)::l=>match cq gl T x,ql gl T l with
  |O a,O r=>O ((i,a)::r)
  |_,_=>X
def vF(gl:bH)(T:VT):Eh->gw fN
 |X=>O X
 |O x=>match cq gl T x with|O a=>O (O a)|X=>X
def bU:eK->lC
 |.t i=>[i]
 |_=>[]
def BA:xB->lC
 |[]=>[]
 |(_,x)::l=>bU x++BA l
inductive CO where
 |mv (x:eK)
 |tk (sz:R) (x:eK)
 |pk (c a b:eK)
 |bl (z:B ak) (pl:B (R×R)) (ps:B (R×eK))
 |bt (z:B ak) (pl:B (R×R)) (ps:B (R×eK))
 |nl (x:eK)
 |bn (op:BinOp) (t:R) (x y:eK)
 |un (op:UnOp) (x:eK)
 |mn (x y:eK)
 |mx (x y:eK)
 |cv (k:IntKind) (x:eK)
 |mf (f:R) (cap:B eK)
 |fa (o:R) (x:eK)
 |ia (sl:gw R) (ar:gw (R×R)) (x ix:eK)
 |ix (t:R) (x i:eK)
 |ex (i:R) (x:eK)
 |ln (sl:mi) (t:R) (x:eK)
 |ld (tk agg:mi) (n:R) (x:eK)
 |sx (sl:gw R) (str:mi) (x:eK) (lo hi:gw eK)
 |al (z:B ak)
 |bx (tk:mi) (x:eK)
 |bs (sz:R) (z:B ak) (n:R) (ps:B (R×eK))
 |mk (z:B ak) (l c:eK)
 |st (n:R) (x v:eK)
 |cl (f:eK) (args:B eK)
 |LR (f:FuncId) (args:B eK)
 |Qr (sz:R) (s x:eK)
 |ap (sz:R) (s x:eK)
structure CE where
 d:fV
 g:JM
 o:CO
abbrev jh:=B CE
abbrev Ks:=B (R×gw jh)
abbrev mM(d:R)(c:CO):CE:=⟨O d,X,c⟩
abbrev E(c:CO):CE:=⟨X,X,c⟩
abbrev Qqq(d t:R)(b:mi)(c:CO):CE:=⟨O d,O (t,b),c⟩
inductive CC where
 |skip
 |bh (l:B CE) (out:gw (B R×B R))
 |wb (ks:B R) (l:B CE) (out:gw (B R×B R))
 |xQ (l:B CE) (bef:B (B R)) (out:gw (B R×B R))
 |seq (a b:CC)
 |cond (x:eK) (a b:CC)
 |block (id:R) (a:CC)
 |loop (head:gw (B R×B R)) (a:CC)
 |exit (id:R)
 |ret
def xF(sz:R):ak->ak
 |.sl [] (O 0)=>.sl [] (O sz)
 |v=>v
def rD(sl:bA)(y:lY)(x ix:ak):fN:=
 match G4 ix with
 |X=>X
 |O i=>
  match x with
  |.sl es _=>match sl,es[i]?with
   |O sz,O e=>if e.length=sz then O (.rp e 0)else X
   |_,_=>X
  |.ms d k len sz=>match sl with
   |O u=>if i<len/\u=sz then O (.ptr d k (i*sz))else X
   |X=>X
  |.ptr d k off=>match y with
   |O (n,sz)=>if i<n then O (.ptr d k (off+i*sz))else X
   |X=>X
  |.rp cs off=>match y with
   |O (n,sz)=>if i<n then O (.rp cs (off+i*sz))else X
   |X=>X
  |_=>X
def Hj(P:aA)(sl:mi)(t:R):ak->fN
 |.sl es _=>match sl with|V=>O (.sc (.int .i64 es.length))|W=>X
 |.ms _ _ n _=>match sl with|V=>O (.sc (.int .i64 n))|W=>X
 |.sc a=>match dh P t a with|O r=>lZ r|X=>X
 |_=>X
def Fw(o:R):ak->fN
 |.ptr d k off=>O (.ptr d k (off+o))
 |.rp cs off=>O (.rp cs (off+o))
 |_=>X
def pL(agg:mi)(n:R)(cs:be)(off:R):fN:=
 match agg with
 |V=>match yA cs off n with|O l=>O (.agg l)|X=>X
 |W=>cs[off]?
def wx(tk agg:mi)(n:R)(st:aG):ak->Gc
 |.rp cs off=>match pL agg n cs off with|O v=>O (dg v,X,st)|X=>X
 |.ptr d k off=>match cu st d k with
  |O cs=>match pL agg n cs off with
   |O v=>(match tk with
    |V=>O (v,O (d,k),tR st d k (eR cs off ((cond agg v.cells [v]).map eZ)))
    |W=>O (dg v,O (d,k),st))
   |X=>X
  |X=>X
 |_=>X
def AN(sl:bA)(str:mi)(x:ak)(lo u:fN):fN:=
 match x with
 |.sl es _=>
  match sl,oI lo 0,oI u es.length with
  |O sz,O l,O h=>if l<=h/\h<=es.length/\km sz es=V then O (.sl ((es.drop l).take (h-l)) X)else X
  |_,_,_=>X
 |.sc (.str s)=>
  match str,oI lo 0,oI u s.length with
  |V,O l,O h=>if l<=h/\h<=s.length then O (.sc (.str ((s.drop l).take (h-l))))else X
  |_,_,_=>X
 |_=>X
def D7(st:aG)(n:R)(x v:ak):MK:=
 match x with
 |.ptr d k off=>
  match cu st d k with
  |O cs=>
   match v.ji,v.cells.length==n,decide (off+n<=cs.length),(d==st.up.length||v.cells.all ak.data)&&v.cells.all ak.cell with
   |W,V,V,V=>O (tv st d k (eR cs off v.cells),d,k)
   |_,_,_,_=>X
  |X=>X
 |_=>X
def qt(st:aG)(sz:R)(s x:ak):fN:=
 match s with
 |.sl es (O z)=>
  match DU st x with
  |O new=>if(z=sz\/(z=0/\es=[]))/\es.length+new.length<=1073741824/\km sz new=V then O (.sl (es++new) (O sz))else X
  |X=>X
 |_=>X
def NW(sz:R)(s x:ak):fN:=
 match s,x with
 |.sl es o,.sc (.int _ (.ofNat 0))=>if km sz es=V then O (.sl es o)else X
 |_,_=>X
def Dv(P:aA)(gl:bH)(aae:eE)(T:VT)(st:aG)(f:eK)(args:wH):kX:=
 match cq gl T f,vK gl T args with
 |O (.fn g cap),O l=>match ly P g with
  |V=>match aae g ((l++cap).map (mA (st.cur::st.up))) (st.cur::st.up)with
   |O (v,F::S,d)=>
    (match(l++cap).any ak.kZ&&(!(AJ v)||((l++cap).map (mA (st.cur::st.up))).any ak.open)with
     |W=>O ⟨v,[],{w:=st.w||d,cur:=F,up:=S},.eO (rY d)⟩
     |V=>X)
   |_=>X
  |W=>X
 |_,_=>X
def cP(st:aG)(src:lC):fN->kX
 |O v=>O ⟨v,src,st,.pure⟩
 |X=>X
def oB{y u:Type}:gw y->(y->gw u)->gw u
 |O a,f=>f a
 |X,_=>X
def bw(P:aA)(gl:bH)(aae:eE)(T:VT)(st:aG)(dst:fV):CO->kX
 |.mv x=>oB (cq gl T x) λ v=>O ⟨dg v,[],st,.pure⟩
 |.tk sz x=>oB (cq gl T x) λ v=>O ⟨xF sz v,bU x,st,.pure⟩
 |.pk c a b=>oB (cq gl T c) λ c=>oB (cq gl T a) λ a=>oB (cq gl T b) λ b=>cP st [] (EF c a b)
 |.bl z A u=>oB (ql gl T u) λ l=>oB (oZ A z (l.map λ p=>(p.1,dg p.2))) λ cs=>O ⟨.agg cs,[],st,.pure⟩
 |.bt z A u=>oB (ql gl T u) λ l=>oB (oZ A z l) λ cs=>O ⟨.agg cs,BA u,st,.pure⟩
 |.nl x=>oB (cq gl T x) λ v=>cP st [] (En v)
 |.bn D t x y=>oB (cq gl T x) λ a=>oB (cq gl T y) λ b=>cP st [] (fU P D t a b)
 |.un D x=>oB (cq gl T x) λ v=>cP st [] (Fp D v)
 |.mn x y=>oB (cq gl T x) λ a=>oB (cq gl T y) λ b=>cP st [] (La a b)
 |.mx x y=>oB (cq gl T x) λ a=>oB (cq gl T y) λ b=>cP st [] (Fx a b)
 |.cv k x=>oB (cq gl T x) λ v=>match v with|.sc (.int _ n)=>O ⟨.sc (.int k (k.wrap n)),[],st,.pure⟩|_=>X
 |.mf f cap=>oB (vK gl T cap) λ l=>O ⟨.fn f (l.map dg),[],st,.pure⟩
 |.fa o x=>oB (cq gl T x) λ v=>cP st [] (Fw o v)
 |.ia sl J x ix=>oB (cq gl T x) λ a=>oB (cq gl T ix) λ i=>cP st [] (rD sl J a i)
 |.ix t x i=>oB (cq gl T x) λ a=>oB (cq gl T i) λ i=>cP st [] (HN P t a i)
 |.ex i x=>oB (cq gl T x) λ v=>cP st [] (yM i v)
 |.ln sl t x=>oB (cq gl T x) λ v=>cP st [] (Hj P sl t v)
 |.ld tk agg n x=>oB (cq gl T x) λ a=>oB (wx tk agg n st a) λ r=>O ⟨r.1,[],r.2.2,.read r.2.1⟩
 |.sx sl str x lo F=>oB (cq gl T x) λ a=>oB (vF gl T lo) λ l=>oB (vF gl T F) λ h=>oB (AN sl str a l h) λ v=>O ⟨v,[],st,.read X⟩
 |.al z=>oB dst λ k=>oB (iX T st k z) λ st'=>O ⟨.ptr st.up.length k 0,[],st',.new V⟩
 |.bx tk x=>oB dst λ k=>oB (cq gl T x) λ v=>match v.ji with
  |V=>X
  |W=>oB (iX T st k (match tk with|V=>v.cells|W=>(dg v).cells)) λ st'=>O ⟨.ptr st.up.length k 0,(match tk with|V=>bU x|W=>[]),st',.new V⟩
 |.bs sz z n u=>oB (ql gl T u) λ l=>oB (sF sz (ef n z) l) λ es=>O ⟨.sl es (O sz),[],st,.new W⟩
 |.mk z l c=>oB dst λ k=>oB (cq gl T l) λ a=>oB (cq gl T c) λ b=>match a,b with
  |.sc (.int .i64 (.ofNat n)),.sc (.int .i64 (.ofNat m))=>if n=m/\n<=1073741824 then oB (iX T st k (ef n z).flatten) λ st'=>O ⟨.ms st.up.length k n 1,[],st',.new V⟩else X
  |_,_=>X
 |.st n x v=>oB (cq gl T x) λ p=>oB (cq gl T v) λ w=>oB (D7 st n p w) λ r=>O ⟨.bp [],bU v,r.1,.eO (.box r.2.1 r.2.2)⟩
 |.cl f args=>Dv P gl aae T st f args
 |.LR f args=>AT T dst (Dv P gl aae T st (.f f) args)
 |.Qr sz s x=>oB (cq gl T s) λ a=>oB (cq gl T x) λ b=>oB (NW sz a b) λ v=>O ⟨v,bU s,st,.eO .clean⟩
 |.ap sz s x=>oB (cq gl T s) λ a=>oB (cq gl T x) λ b=>oB (qt st sz a b) λ v=>O ⟨v,bU s,st,.eO .clean⟩
def zH(T:VT):JM->tD
 |X=>O V
 |O (t,want)=>match mq T t with
  |.sc (.bool b)=>O (b==want)
  |.un=>O W
  |_=>X
def pF(P:aA)(gl:bH)(aae:eE)(n:R):jh->VT->aG->qe
 |[],T,st=>O (T,st)
 |e::l,T,st=>
  match zH T e.g with
  |O V=>match bw P gl aae T st e.d e.o with
   |O r=>pF P gl aae n l (fk n (kI r.src T) e.d r.v) r.st
   |X=>X
  |O W=>pF P gl aae n l (fk n T e.d .un) st
  |X=>X
def FU(bef:bG):bG->mi
 |[]=>V
 |a::l=>bef.elem a&&FU bef l
def nM(bef:bG)(i:R)(Z:iq):rV->yZ
 |.pure=>O Z
 |.read X=>match Z.bM,Z.al with
  |[],_=>O Z
  |_,V=>X
  |_,W=>O {Z with rs:=(i,X,Z.es.length)::Z.rs}
 |.read (O b)=>match Z.an,Z.al with
  |W,_=>O {Z with rs:=(i,O b,Z.es.length)::Z.rs}
  |V,V=>X
  |V,W=>O {Z with rs:=(i,X,Z.es.length)::Z.rs}
 |.new b=>O {Z with bM:=i::Z.bM,al:=V,an:=Z.an||b}
 |.eO d=>match FU bef Z.bM with
  |V=>O {Z with bM:=i::Z.bM,es:=(i,d)::Z.es,al:=W}
  |W=>X
 |.zg=>X
def nD(P:aA)(gl:bH)(aae:eE)(n:R)(bef:jQ):jh->R->iq->VT->aG->sT
 |[],_,Z,T,st=>O (Z,T,st)
 |e::l,i,Z,T,st=>
  match zH T e.g with
  |O V=>match bw P gl aae T st e.d e.o with
   |O r=>match nM (bef.getD i []) i Z r.e with
    |O u=>nD P gl aae n bef l (i+1) u (fk n (kI r.src T) e.d r.v) r.st
    |X=>X
   |X=>X
  |O W=>nD P gl aae n bef l (i+1) Z (fk n T e.d .un) st
  |X=>X
def pG(bef:jQ)(j:R)(ok:kl):lT->bA->mi
 |[],up=>(match up with|O e=>(bef.getD j []).elem e|X=>W)||ok 0
 |e::es,up=>((match up with|O u=>(bef.getD j []).elem u|X=>W)||(bef.getD e.1 []).elem j||ok (es.length+1))&&pG bef j ok es (O e.1)
def vC(bef:jQ)(es:lT):L8->mi
 |[]=>V
 |r::rs=>pG bef r.1 (Dx r.2.1 r.2.2 es) es X&&vC bef es rs
def wv:CO->CO
 |.tk _ x=>.mv x
 |.bt z y u=>.bl z y u
 |.ld _ agg n x=>.ld W agg n x
 |.bx _ x=>.bx W x
 |c=>c
def oG(P:aA)(gl:bH)(aae:eE)(n:R)(bef:jQ)(bF:aG):jh->R->iq->VT->VT->aG->sT
 |[],_,Z,T,_,st=>O (Z,T,st)
 |e::l,i,Z,T,Uqq,st=>
  match zH T e.g with
  |O V=>match bw P gl aae T st e.d e.o with
   |O r=>match nG Z.es r.e (bw P gl oc Uqq bF e.d (wv e.o))with
    |q=>match zp Z (nM (bef.getD i []) i Z r.e) q with
     |O u=>oG P gl aae n bef bF l (i+1) u (fk n (kI r.src T) e.d r.v) (fk n Uqq e.d (Bv q)) r.st
     |X=>X
   |X=>X
  |O W=>oG P gl aae n bef bF l (i+1) Z (fk n T e.d .un) (fk n Uqq e.d .un) st
  |X=>X
def wy(bef:jQ):sT->qe
 |O (Z,u,st')=>match vC bef Z.es Z.rs with|V=>O (u,st')|W=>X
 |X=>X
def yU(P:aA)(gl:bH)(aae:eE)(n:R)(l:jh)(bef:jQ)(T:VT)(st:aG):qe:=Re (wy bef (nD P gl aae n bef l 0 ⟨[],[],W,W,[]⟩ T st)) (wy bef (oG P gl aae n bef st l 0 ⟨[],[],W,W,[]⟩ T T st))
def qX(o:ze)(T:VT)(st:aG):VT×aG:=
 match o with
 |O (a,b)=>(qG a T,{st with cur:=qG b st.cur})
 |X=>(T,st)
def iQ(P:aA)(gl:bH)(aae:eE)(n:R):R->CC->VT->aG->qv
 |0,_,_,_=>X
 |m+1,c,T,st=>
  match c with
  |.skip=>O (.normal,T,st)
  |.bh l out=>match pF P gl aae n l T st with|O (u,st')=>O (.normal,qX out u st')|X=>X
  |.wb ks l out=>match uX ks T st with
   |O (y,iz)=>match pF P gl aae n l y iz with|O (u,st')=>O (.normal,qX out u st')|X=>X
   |X=>X
  |.xQ l bef out=>match yU P gl aae n l bef T st with|O (u,st')=>O (.normal,qX out u st')|X=>X
  |.seq a b=>match iQ P gl aae n m a T st with
   |O (.normal,u,st')=>iQ P gl aae n m b u st'
   |r=>r
  |.cond x a b=>match cq gl T x with
   |O (.sc (.bool V))=>iQ P gl aae n m a T st
   |O (.sc (.bool W))=>iQ P gl aae n m b T st
   |_=>X
  |.block id a=>match iQ P gl aae n m a T st with
   |O (.exit j,u,st')=>if j=id then O (.normal,u,st')else O (.exit j,u,st')
   |r=>r
  |.loop h a=>match iQ P gl aae n m a (qX h T st).1 (qX h T st).2 with
   |O (.normal,u,st')=>iQ P gl aae n m (.loop h a) u st'
   |r=>r
  |.exit id=>O (.exit id,T,st)
  |.ret=>O (.ret,T,st)
def ZL:eN->gw ck
 |.func g=>match Am g with|V=>O g|W=>X
 |_=>X
def jl:eN->Eh
 |.tmp t=>O (.t t)
 |.const w=>match ofValue w with
  |O a=>match lZ a with
   |O (.sc (.int .i64 n))=>O (.i n)
   |O (.sc (.bool x))=>O (.b x)
   |O v=>O (.v v)
   |X=>X
  |X=>X
 |.global g=>O (.g g)
 |.func f=>O (.f f)
def HQ:uF->gw wH
 |[]=>O []
 |x::l=>match jl x,HQ l with
  |O a,O r=>O (a::r)
  |_,_=>X
def KZ:rK->gw xB
 |[]=>O []
 |(i,x)::l=>match jl x,KZ l with
  |O a,O r=>O ((i,a)::r)
  |_,_=>X
def TJ:AR->gw Eh
 |X=>O X
 |O x=>match jl x with|O a=>O (O a)|X=>X
def Gt(P:aA)(t:bj):bA:=match pZ P t with|O (sz,_)=>O sz|X=>X
def aan(P:aA)(t:bj):Bool:=match P.underlying t with|O .string=>V|_=>W
def E8(P:aA)(tk:mi)(ty:bj)(x:eN):gw CO:=
 match jl x with
 |O o=>match tk with
  |V=>O (.tk (match pZ P ty with|O (sz,_)=>sz|X=>0) o)
  |W=>O (.mv o)
 |X=>X
def OL(f:eN)(args:uF):gw CO:=
 match ZL f with
 |O g=>match HQ args with|O l=>O (.LR g l)|X=>X
 |X=>match jl f,HQ args with|O f,O l=>O (.cl f l)|_,_=>X
def lV(P:aA)(tk:mi)(ty:bj):Op->gw CO
 |.move x=>E8 P tk ty x
 |.assign x=>E8 P tk ty x
 |.pick c a b=>match jl c,jl a,jl b with|O c,O a,O b=>O (.pk c a b)|_,_,_=>X
 |.build t D=>match KZ D.toList,aaf P t with
  |O l,O (z,J)=>(match tk with
   |V=>(match Jz (tL D.toList)with|V=>O (.bt z J l)|W=>X)
   |W=>O (.bl z J l))
  |_,_=>X
 |.nilCheck x=>match jl x with|O a=>O (.nl a)|X=>X
 |.binOp F t x y _=>match jl x,jl y with|O a,O b=>O (.bn F t a b)|_,_=>X
 |.unOp F _ x=>match jl x with|O a=>O (.un F a)|X=>X
 |.convert s d x=>match jl x,P.underlying s,P.underlying d with|O a,O _,O (.int k)=>O (.cv k a)|_,_,_=>X
 |.makeFunc (.func f) ⟨[]⟩ cap=>match HQ cap.toList with|O b=>O (.mf f b)|X=>X
 |.fieldAddr s x f=>match jl x,Hq P s f with|O a,O o=>O (.fa o a)|_,_=>X
 |.indexAddr t x ix=>match jl x,jl ix with|O a,O i=>O (.ia (Gt P t) (GL P t) a i)|_,_=>X
 |.index t x ix=>match jl x,jl ix with|O a,O i=>O (.ix t a i)|_,_=>X
 |.extract x i=>match jl x with|O a=>O (.ex i a)|X=>X
 |.call {callee:=.builtin .len,args:=⟨[x]⟩,argTypes:=⟨t::_⟩}=>match jl x with|O a=>O (.ln (wP P t) t a)|X=>X
 |.call {callee:=.builtin .min,args:=⟨[x,y]⟩,..}=>match jl x,jl y with|O a,O b=>O (.mn a b)|_,_=>X
 |.call {callee:=.builtin .max,args:=⟨[x,y]⟩,..}=>match jl x,jl y with|O a,O b=>O (.mx a b)|_,_=>X
 |.load t a=>match jl a,HK P t with|O x,O (agg,n)=>O (.ld tk agg (cond agg n 1) x)|_,_=>X
 |.slice t x lo K X=>match jl x,TJ lo,TJ K with|O a,O l,O h=>O (.sx (Gt P t) (aan P t) a l h)|_,_,_=>X
 |.alloc t=>match qZ P t with|O z=>O (.al z.cells)|X=>X
 |.box _ x=>match jl x with|O a=>O (.bx tk a)|X=>X
 |.buildSlice t n D=>match KZ D.toList,pZ P t,wg P t with
  |O l,O (sz,_),O z=>if n*sz<=16777216/\z.all ak.data=V then O (.bs sz (z.map eZ) n l)else X
  |_,_,_=>X
 |.makeSlice t l c=>match jl l,jl c,pZ P t,wg P t with
  |O l,O c,O (sz,A),O z=>if A<=1024/\z.all ak.data=V/\sz=1 then O (.mk (z.map eZ) l c)else X
  |_,_,_,_=>X
 |.store t a x=>match jl a,jl x,Pv P t with|O p,O v,O n=>O (.st n p v)|_,_,_=>X
 |.call {callee:=.value f,args,..}=>OL f args.toList
 |.call {callee:=.builtin .append,args:=⟨[s,x]⟩,argTypes:=⟨[t,u]⟩}=>match jl s,jl x,pZ P t,wg P t,wP P u,FA P u with
  |O a,O b,O (sz,A),O _,V,_=>if A<=1024 then O (.ap sz a b)else X
  |O a,O b,O (sz,_),O _,W,V=>O (.Qr sz a b)
  |_,_,_,_,_,_=>X
 |_=>X
def WB(aag:dM):gw (R×mi)->gw JM
 |X=>O X
 |O (j,want)=>match aag[j]?with
  |O u=>match u.dst with
   |O d=>O (O (d,want))
   |X=>X
  |X=>X
def BI(P:aA)(tk:bG)(aag:dM):dM->gw jh
 |[]=>O []
 |o::l=>match WB aag o.guard,lV P (By tk o.dst) o.type o.op,BI P tk aag l with
  |O g,O c,O r=>O (⟨o.dst,g,c⟩::r)
  |_,_,_=>X
def bits(m:R):bG:=(vv (m.log2+1)).filter λ i=>tb m i
def BK(aag:dV):jQ:=(Region.before aag).toList.map bits
def qu(P:aA)(pf:mh):Code->gw CC
 |.skip=>O .skip
 |.region id aag d=>match BI P pf.take aag.toList aag.toList with
  |O l=>(match lk pf.qV id,d with
   |X,V=>O (.xQ l (BK aag) (lk pf.out id))
   |X,W=>O (.bh l (lk pf.out id))
   |O ks,W=>O (.wb ks l (lk pf.out id))
   |O _,V=>X)
  |X=>X
 |.seq a b=>match qu P pf a,qu P pf b with|O a,O b=>O (.seq a b)|_,_=>X
 |.cond x a b=>match jl x,qu P pf a,qu P pf b with|O x,O a,O b=>O (.cond x a b)|_,_,_=>X
 |.block id a=>match qu P pf a with|O a=>O (.block id a)|X=>X
 |.loop a=>match qu P pf a with|O c=>O (.loop (lk pf.head (L1 a)) c)|X=>X
 |.exit id=>O (.exit id)
 |.ret=>O .ret
 |_=>X
section
variable{by_:R}{u:bj}
variable{P:aA}{gl:bH}{T:VT}{st:aG}
theorem jI{x:eN}{o:eK}(h:jl x=O o):gT gl T x=cq gl T o:=by
 cases x with
 |tmp t=>cases h;rfl
 |const w=>
  rw[jl]at h;rw[gT];split at h<;>try cases h
  rename_i a y;rw[y];show lZ a=_;cases u:lZ a;.rw[u]at h;cases h
  rename_i v;rw[u]at h;split at h;.rename_i e;cases e;cases h;rfl
  .rename_i e;cases e;cases h;rfl
  .rename_i e;cases e;cases h;rfl
  rename_i e;cases e
 |global g=>cases h;rfl
 |func f=>cases h;rfl
theorem I1{x:eN}{o:eK}(h:jl x=O o):mz x=bU o:=by
 cases x with
 |tmp t=>cases h;rfl
 |const w=>
  rw[jl]at h;split at h;.split at h<;>first|(cases h;rfl)|cases h
  cases h
 |global g=>cases h;rfl
 |func f=>cases h;rfl
def Ri:∀{l:uF} {r:wH},HQ l=O r->FM gl T l=vK gl T r
 |[],r,h=>by cases h;rfl
 |x::l,r,h=>by rw[HQ]at h;split at h<;>cases h;rename_i a b y u;rw[FM,jI y,Ri u];rfl
theorem Xg:∀{l:rK} {r:xB},KZ l=O r->Gk gl T l=ql gl T r/\tL l=BA r
 |[],r,h=>by cases h;exact⟨Q,Q⟩
 |(i,x)::l,r,h=>by
  rw[KZ]at h;split at h;.rename_i a b y u;obtain⟨h1⟩:=Xg u;grind[Gk,ql,jI,tL,BA,I1]
  cases h
theorem afG{x:AR}{o:Eh}(h:TJ x=O o):Is gl T x=vF gl T o:=by
 cases x;.cases h;rfl
 rename_i x;grind[TJ,Is,vF,jI]
theorem aw8(P:aA)(ty:bj)(v:ak):JU P ty v=xF (match pZ P ty with|some (sz,_)=>sz|none=>0) v:=by
 cases v with
 |sl es o=>
  cases es
  .cases o;.rfl
   rename_i n;cases n;.grind[JU,xF]
   rename_i n;rfl
  rename_i e es;rfl
 |_=>rfl
theorem aHC{off:R}:(match yA cs off 1 with|O (c::_)=>O c|_=>X)=cs[off]? :=by grind[yA,acR]
theorem anK{tk:mi}{agg:mi}(D:HK P t=O (agg,n))(x:ak):Ad P tk st t x=wx tk agg (cond agg n 1) st x:=by
 have A:∀cs off,Jj P t cs off=(pL agg (cond agg n 1) cs off).map λ v=>(v,cond agg n 1):=by grind[Jj,pL,aHC]
 unfold Ad wx;cases x with
 |rp cs off=>grind
 |ptr d k off=>
  simp only;cases cu st d k;.rfl
  rename_i cs;simp only[A];cases u:pL agg _ cs off;.rfl
  rename_i v;simp only[Ot];cases tk;.rfl
  have:(cs.drop off).take (cond agg n 1)=(cond agg v.cells [v]):=by
   unfold pL at u;cases agg;.grind[acR]
   simp at u⊢;unfold yA at u;split at u<;>cases u;rename_i l y;split at y<;>cases y;rfl
  rw[this]
 |_=>rfl
theorem aGJ{x ix:ak}:Nk P t x ix=rD (Gt P t) (GL P t) x ix:=by grind[Nk,rD,Gt]
def aIj{x:ak}:S5 P t x=Hj P (wP P t) t x:=by cases x<;>rfl
theorem aGQ{x:ak}{lo hi:fN}:Fz P t x lo hi=AN (Gt P t) (aan P t) x lo hi:=by unfold Fz AN Gt aan;grind
def aHR{s:bj}{f o:R}(h:Hq P s f=O o){x:ak}:Oh P s f x=Fw o x:=by unfold Oh Fw;cases x<;>rw[h]
theorem aH4(h:Pv P t=O n){x:ak}:HE P st t x v=D7 st n x v:=by unfold HE D7;rw[h];cases x<;>rfl
theorem az1{z:be}(h1:pZ P t=O (sz,by_))(h2:wg P t=O z)(A:wP P u=V)(y:by_<=1024){s x:ak}:FW P st [t,u] s x=qt st sz s x:=by unfold FW qt;grind
def arP{P:aA}(h:FA P u=W)(s x:ak):EU P [t,u] s x=none:=by
 unfold EU;split;.rename_i e;injection e with e1 e2;injection e2 with e2 _;subst e1 e2;rw[h];cases pZ P t<;>cases wg P t<;>rfl
 rfl
def aAf{P:aA}{st:aG}(h:wP P u=W)(s x:ak):FW P st [t,u] s x=none:=by
 unfold FW;split;.rename_i e;injection e with e1 e2;injection e2 with e2 _;subst e1 e2;rw[h];cases pZ P t<;>cases wg P t<;>rfl
 rfl
def aIw{P:aA}{z}(A:pZ P t=O (sz,by_))(y:wg P t=O z)(h:FA P u=V)(s x:ak):EU P [t,u] s x=NW sz s x:=by
 unfold EU NW;split;.rename_i e;injection e with e1 e2;injection e2 with e2 _;subst e1 e2;rw[h,A,y];rfl
 rename_i D;split;.exact absurd Q λ x=>D _ _ _ _ _ Q x Q
 rfl
theorem O8{c:CO}(h:lV P (By pf.take o.dst) o.type o.op=O c):ir P pf gl aae T st o=bw P gl aae T st o.dst c:=by
 obtain⟨dst,op,ty,ag,ah,gd⟩:=o;simp only at h;generalize A:By pf.take dst=tk at h;have mv:∀x,E8 P tk ty x=O c->(match gT gl T x with|some v=>O (Bz P tk ty v)|none=>X)=(bw P gl aae T st dst c).map (·.v)/\∀v,gT gl T x=O v->bw P gl aae T st dst c=O ⟨Bz P tk ty v,(cond tk (mz x) []),st,.pure⟩:=by intro x hx;unfold E8 at hx;grind[jI,bw,oB,Bz,aw8,I1]
 cases op with
 |move x=>
  obtain⟨m1,m2⟩:=mv x h;simp only[ir,dK,pX,pj,A];cases hx:gT gl T x
  .rw[hx]at m1;cases K:bw P gl aae T st dst c;.rfl
   rename_i r;rw[K]at m1;cases m1
  rename_i v;grind
 |assign x=>
  obtain⟨m1,m2⟩:=mv x h;simp only[ir,dK,pX,pj,A];cases hx:gT gl T x
  .rw[hx]at m1;cases K:bw P gl aae T st dst c;.rfl
   rename_i r;rw[K]at m1;cases m1
  rename_i v;grind
 |pick c0 a0 b0=>
  simp only[lV]at h;split at h
  .rename_i a b c' D F K;cases h;simp only[ir,dK,pX,pj,A,jI D,jI F,jI K,bw];cases cq gl T a;.rfl
   rename_i a;cases cq gl T b;.rfl
   rename_i b;cases cq gl T c';.rfl
   rename_i c';simp only[oB];cases EF a b c'<;>rfl
  cases h
 |build t ps=>
  simp only[lV]at h;split at h
  .rename_i l z pl S M;obtain⟨e1,e2⟩:=Xg (gl:=gl) (T:=T) S;cases tk;.cases h;simp only[ir,dK,pX,pj,A,e1,Ky,M,bw];grind[oB]
   simp only at h;split at h;.rename_i hn;cases h;rw[e2]at hn;simp only[ir,dK,pX,pj,A,e1,hn,Ky,M,bw,e2];grind[oB]
   cases h
  cases h
 |nilCheck x=>
  simp only[lV]at h;split at h
  .rename_i a D;cases h;simp only[ir,dK,pX,pj,A,jI D,bw];cases cq gl T a;.rfl
   rename_i v;simp only[oB];cases En v<;>rfl
  cases h
 |binOp op t x y ac=>
  simp only[lV]at h;split at h
  .rename_i a b D F;cases h;simp only[ir,dK,pX,pj,A,jI D,jI F,bw];cases cq gl T a;.rfl
   rename_i a;cases cq gl T b;.rfl
   rename_i b;simp only[oB];cases fU P _ _ a b<;>rfl
  cases h
 |unOp op ac x=>
  simp only[lV]at h;split at h
  .rename_i a D;cases h;simp only[ir,dK,pX,pj,A,jI D,bw];cases cq gl T a;.rfl
   rename_i v;simp only[oB];cases Fp _ v<;>rfl
  cases h
 |convert s d x=>
  simp only[lV]at h;split at h
  .rename_i a d1 k D hs hd;cases h;simp only[ir,dK,pX,pj,A,jI D,bw];cases cq gl T a;.rfl
   rename_i v;simp only[oB];unfold RX;cases v with
   |sc x=>
    simp only[tg,sH,hs,hd];cases x<;>rfl
   |agg cs=>
    simp only[tg];cases rX cs<;>simp only[sH,hs,hd]
   |_=>rfl
  cases h
 |makeFunc fn first cap=>
  cases fn with
  |func f=>
   obtain⟨first⟩:=first
   cases first
   .simp only[lV]at h;split at h;.rename_i b F;cases h;simp only[ir,dK,pX,pj,A,Ri F,bw];cases vK gl T b<;>rfl
    cases h
   cases h
  |_=>cases h
 |fieldAddr s x f=>
  simp only[lV]at h;split at h
  .rename_i a o D ho;cases h;simp only[ir,dK,pX,pj,A,jI D,bw];cases cq gl T a;.rfl
   rename_i v;simp only[oB,aHR ho];cases Fw o v<;>rfl
  cases h
 |indexAddr t x ix=>
  simp only[lV]at h;split at h
  .rename_i a b D F;cases h;simp only[ir,dK,pX,pj,A,jI D,jI F,bw];cases cq gl T a;.rfl
   rename_i a;cases cq gl T b;.rfl
   rename_i b;simp only[oB,aGJ];cases rD (Gt P _) (GL P _) a b<;>rfl
  cases h
 |index t x ix=>
  simp only[lV]at h;split at h
  .rename_i a b D F;cases h;simp only[ir,dK,pX,pj,A,jI D,jI F,bw];cases cq gl T a;.rfl
   rename_i a;cases cq gl T b;.rfl
   rename_i b;simp only[oB];cases HN P _ a b<;>rfl
  cases h
 |extract x i=>
  simp only[lV]at h;split at h
  .rename_i a D;cases h;simp only[ir,dK,pX,pj,A,jI D,bw];cases cq gl T a;.rfl
   rename_i v;simp only[oB];cases yM _ v<;>rfl
  cases h
 |load t a=>
  simp only[lV]at h;grind[ir,dK,jI,bw,oB,anK]
 |slice t x lo hi mx=>
  cases mx
  .simp only[lV]at h;split at h
   .rename_i a l hh D S hm;cases h;simp only[ir,dK,A,jI D,afG S,afG hm,bw];cases cq gl T a;.rfl
    rename_i a;cases vF gl T l;.rfl
    rename_i l;cases vF gl T hh;.rfl
    rename_i hh;grind[oB,aGQ]
   cases h
  cases h
 |alloc t=>
  simp only[lV]at h;split at h
  .rename_i z Z;cases h;simp only[ir,dK,Di,A,Z,bw];cases dst;.rfl
   rename_i k;simp only[oB];cases iX T st k z.cells<;>rfl
  cases h
 |box t x=>
  simp only[lV]at h;split at h
  .rename_i a D;cases h;simp only[ir,dK,Di,A,jI D,bw,I1 D];cases dst;.rfl
   rename_i k;simp only[oB];cases cq gl T a;.rfl
   rename_i v;simp only;cases v.ji;.cases tk<;>(simp only;cases iX T st k _<;>rfl)
   cases tk<;>rfl
  cases h
 |buildSlice t n ps=>
  simp only[lV]at h;split at h
  .rename_i l sz by_ z S M Z;split at h
   .rename_i K;cases h;simp only[ir,dK,Di,A,(Xg (gl:=gl) (T:=T) S).1,M,Z,aY K,bw];cases ql gl T l;.rfl
    rename_i r;simp only[oB];rw[aY K];cases sF sz _ r<;>rfl
   cases h
  cases h
 |makeSlice t l c=>
  simp only[lV]at h;split at h
  .rename_i l c' sz by_ z S af M Z;split at h<;>try cases h
   rename_i K;obtain⟨c1,c2,c3⟩:=K;subst c3;simp only[ir,dK,Di,A,jI S,jI af,M,Z,bw];cases dst;.rfl
   rename_i k;simp only[oB];cases cq gl T l;.rfl
   rename_i a;cases cq gl T c';.grind
   rename_i b;simp only;cases a with
   |sc a=>
    cases a with
    |int ka na=>
     cases ka<;>try rfl
     cases na with
     |negSucc _=>rfl
     |ofNat n=>
      cases b with
      |sc b=>
       cases b with
       |int kb nb=>
        cases kb<;>try rfl
        cases nb with
        |negSucc _=>rfl
        |ofNat m=>
         simp only;by_cases ab:n=m/\n<=1073741824;.rw[aY ⟨ab.1,ab.2,c1,c2,sp⟩,aY ab];cases iX T st k (ef n (z.map eZ)).flatten<;>rfl
         grind
       |_=>rfl
      |_=>rfl
    |_=>rfl
   |_=>rfl
  cases h
 |store t a x=>
  simp only[lV]at h;split at h
  .rename_i p v m hp hv M;cases h;simp only[ir,dK,DX,vR,A,jI hp,jI hv,I1 hv,bw];cases cq gl T p;.rfl
   rename_i a;cases cq gl T v;.rfl
   rename_i b;grind[oB,aH4]
  cases h
 |call cc=>
  obtain⟨aa,args,J⟩:=cc;cases aa with
  |value f=>
   simp only[lV,OL]at h;split at h
   .rename_i g Y;split at h
    .rename_i l S;cases h;unfold ZL at Y;split at Y
     .rename_i g';split at Y;.rename_i ae;cases Y;simp only[ir,dK,DX,ae,vR,bw,xU,Dv,Ri S];rfl
      cases Y
     cases Y
    cases h
   rename_i Y
   have N:DX (.call ⟨.value f,args,J⟩)=false:=by
    unfold ZL at Y;unfold DX;split at Y
    .split at Y;.cases Y
     assumption
    rename_i ad;split;.rename_i g' a' t' he;cases he;exact(ad g' Q).elim
    rfl
   split at h;.rename_i f' l hf S;cases h;simp only[ir,dK,N,vR,bw,xU,Dv,jI hf,Ri S];rfl
   cases h
  |invoke r m=>cases h
  |builtin bi=>
   cases bi with
   |len=>
    obtain⟨args⟩:=args;obtain⟨J⟩:=J
    match args,J,h with
    |[x],t::ts,h=>
     simp only[lV]at h;split at h
     .rename_i a D;cases h;simp only[ir,dK,pX,pj,A,jI D,bw];cases cq gl T a;.rfl
      rename_i v;simp only[oB,aIj];cases Hj P (wP P _) _ v<;>rfl
     cases h
    |[],_,h=>cases h
    |_::_::_,_,h=>cases h
    |[_],[],h=>cases h
   |min=>
    obtain⟨args⟩:=args
    match args,h with
    |[x,y],h=>
     simp only[lV]at h;split at h
     .rename_i a b D F;cases h;simp only[ir,dK,pX,pj,A,jI D,jI F,bw];cases cq gl T a;.rfl
      rename_i v;cases cq gl T b;.rfl
      rename_i w;simp only[oB];cases La v w<;>rfl
     cases h
    |[],h=>cases h
    |[_],h=>cases h
    |_::_::_::_,h=>cases h
   |max=>
    obtain⟨args⟩:=args
    match args,h with
    |[x,y],h=>
     simp only[lV]at h;split at h
     .rename_i a b D F;cases h;simp only[ir,dK,pX,pj,A,jI D,jI F,bw];cases cq gl T a;.rfl
      rename_i v;cases cq gl T b;.rfl
      rename_i w;simp only[oB];cases Fx v w<;>rfl
     cases h
    |[],h=>cases h
    |[_],h=>cases h
    |_::_::_::_,h=>cases h
   |append=>
    obtain⟨args⟩:=args;obtain⟨J⟩:=J
    match args,J,h with
    |[s,x],[t,u],h=>
     simp only[lV]at h;split at h
     .rename_i xx a b sz by_ z D F M Z hu
      have hi:FA P u=false:=by
       unfold wP at hu;unfold FA;split at hu;.rename_i e;rw[e]
       cases hu
      have N:=λ s x=>arP (P:=P) (t:=t) (u:=u) hi s x
      split at h
      .rename_i K;cases h;simp only[ir,dK,DX,vR,A,jI D,jI F,I1 D,bw];cases cq gl T a;.rfl
       rename_i a;cases cq gl T b;.rfl
       rename_i b;simp only[oB,N,az1 M Z hu K];cases qt st sz a b<;>rfl
      cases h
     .rename_i a b sz by_ z D F M Z hu hi;cases h;have N:=λ s x=>aAf (P:=P) (st:=st) (t:=t) (u:=u) hu s x
      have he:=λ s x=>aIw (P:=P) (t:=t) (u:=u) M Z hi s x
      simp only[ir,dK,DX,vR,A,jI D,jI F,I1 D,bw];cases cq gl T a;.rfl
      rename_i a;cases cq gl T b;.rfl
      rename_i b;simp only[oB,N,he];cases NW sz a b<;>rfl
     cases h
    |[],_,h=>cases h
    |[_],_,h=>cases h
    |_::_::_::_,_,h=>cases h
    |[_,_],[],h=>cases h
    |[_,_],[_],h=>cases h
    |[_,_],_::_::_::_,h=>cases h
   |_=>cases h
 |_=>cases h
end
section
variable{aops:dV}{r:jH}
variable{P:aA}{gl:bH}{T:VT}{st:aG}{aae:eE}{n:R}
theorem aaq{g:JM}(h:WB aag o.guard=O g):(match zL aag T o,zI aag T o with|true,w=>O w|false,_=>X)=zH T g:=by
 unfold zL zI;unfold WB at h;split at h;.rename_i e;cases h;rw[e];rfl
 rename_i j b e;rw[e];split at h;.grind[zH]
 cases h
theorem P4:∀{l:dM} {c:jh} {T:VT} {st:aG},BI P pf.take aag l=O c->Aa P pf gl aae n aag l T st=pF P gl aae n c T st
 |[],c,T,st,h=>by cases h;rfl
 |o::l,c,T,st,h=>by
  rw[BI]at h;split at h<;>cases h;rename_i g D r y A u;rw[Aa,pF,<-aaq y,O8 A];cases zL aag T o;.rfl
  cases zI aag T o;.exact P4 u
  cases bw P gl aae T st _ D;.rfl
  rename_i x;exact P4 u
theorem PA(m i:R):(bits m).elem i=tb m i:=by
 unfold bits;cases h:tb m i;.simp_all
 have u:i<m.log2+1:=by
  rcases yi i _ with k|k
  .exact k
  rw[PU]at h;have:=eU Nat.lt_log2_self (Nat.pow_le_pow_right aa k);grind[Nat.testBit_lt_two_pow]
 simp_all
theorem Ub(aag:dV)(i:R):(BK aag).getD i []=bits (eA aag i):=by
 unfold BK eA;rw[qh,UO,mu,adR];cases (Region.before aag)[i]?
 .cases e:bits 0;.rfl
  rename_i a l;have h:=PA 0 a;grind[PU]
 rename_i m;rfl
theorem anu(m:R):∀l:bG,qw m l=FU (bits m) l
 |[]=>rfl
 |a::l=>by show vi W (qw m l) _=((bits m).elem a&&FU _ l);rw[PA,anu m l];cases tb m a<;>rfl
theorem afl{e:rV}:Cd m i Z e=nM (bits m) i Z e:=by unfold Cd nM;grind[anu]
theorem adk:∀{l:dM} {c:jh} {i:R} {Z:iq} {T:VT} {st:aG},BI P pf.take aag l=O c->xg P pf gl aae n aag (eA aops) l i Z T st=nD P gl aae n (BK aops) c i Z T st
 |[],c,i,Z,T,st,h=>by cases h;rfl
 |o::l,c,i,Z,T,st,h=>by
  rw[BI]at h;split at h<;>cases h;rename_i g D r y A u;simp only[xg,nD,<-aaq y,O8 A,Ub,<-afl];cases zL aag T o;.rfl
  cases zI aag T o;.exact adk u
  cases bw P gl aae T st _ D;.rfl
  rename_i x;simp;cases Cd _ i Z _;.rfl
  rename_i F;exact adk u
theorem aDk {f : eN} {args : uF} {c : CO} (h : OL f args = O c) : wv c = c := by
  unfold OL at h
  split at h
  · split at h <;> cases h
    rfl
  · split at h <;> cases h
    rfl
theorem aDE {tk : mi} {ty : bj} {o : Op} {c : CO} (h : lV P tk ty o = O c) : lV P W ty o = O (wv c) := by
  have mv : ∀ x, E8 P tk ty x = O c → E8 P W ty x = O (wv c) := by
    intro x hx
    unfold E8 at hx ⊢
    split at hx
    · cases tk <;> (cases hx; rfl)
    · cases hx
  unfold lV at h ⊢
  split at h
  · exact mv _ h
  · exact mv _ h
  all_goals first
    | (cases h; done)
    | (rw [aDk h]; exact h)
    | (have hu : wv c = c := by
         split at h
         · split at h <;> try cases h
           rfl
         · cases h; rfl
         · cases h
       rw [hu]; exact h)
    | (split at h
       · first
         | (cases h; simp only [*, wv]; done)
         | (split at h
            · first
              | grind [wv]
            · first
              | grind [wv])
       · cases h)
theorem W8{pf:mh}{bF:aG}:∀{l:dM} {c:jh} {i:R} {Z:iq} {T Uqq:VT} {st:aG},BI P pf.take aag l=O c->yf P pf gl aae n aag (eA aops) bF l i Z T Uqq st=oG P gl aae n (BK aops) bF c i Z T Uqq st
 |[],c,i,Z,T,Uqq,st,h=>by cases h;rfl
 |o::l,c,i,Z,T,Uqq,st,h=>by
  rw[BI]at h;split at h<;>cases h;rename_i g D r A y u;simp only[yf,oG,<-aaq A,O8 y,Ub,<-afl,O8 (pf:=HL) ((an8 _)▸aDE y)];cases zL aag T o;.rfl
  cases zI aag T o;.exact W8 u
  cases bw P gl aae T st _ D;.rfl
  rename_i x;simp;cases zp Z _ _;.rfl
  rename_i F;exact W8 u
def ah0{aag:dV}{ok:kl}:∀{es:lT} {up:bA},Aq (eA aag) j ok es up=pG (BK aag) j ok es up
 |[],up=>by simp only[pG,Ub,PA];cases up<;>rfl
 |e::es,up=>by simp only[Aq,pG,Ub,PA,ah0];cases up<;>rfl
def agi{aag:dV}{es:lT}:∀{rs:L8},Vq (eA aag) es rs=vC (BK aag) es rs
 |[]=>rfl
 |r::rs=>by have:=agi (aag:=aag) (es:=es) (rs:=rs);unfold Vq at this⊢;rw[ny,this,ah0];rfl
theorem St{l:EM}{id:R}{T:VT}{st:aG}:zr l id T st=qX (lk l id) T st:=rfl
theorem aFR:∀(c:Code) {u:CC},qu P pf c=O u->∀(m:R) (T:VT) (st:aG),ic P pf gl aae n m c T st=iQ P gl aae n m u T st:=by
 intro c;induction c with
 |skip=>intro u h m T st;cases h;cases m<;>rfl
 |exit id=>intro u h m T st;cases h;cases m<;>rfl
 |ret=>intro u h m T st;cases h;cases m<;>rfl
 |region id aag d=>
  intro u h m T st;rw[qu]at h;split at h<;>try cases h
  have J:∀x,xV aag x=wy (BK aag) x:=by intro x;unfold xV wy;simp only[agi];rfl
  split at h
  .rename_i A;cases m;.rfl
   rename_i m;rw[ic,A,Oj];grind[iQ,BL,yU,adk,W8,St]
  .rename_i A;cases m;.rfl
   rename_i m;simp only[ic,A,Oj];grind[iQ,BL,P4,St]
  .rename_i ks A;cases h;cases m;.rfl
   rename_i m;simp only[ic,A,Oj,iQ];cases uX ks T st;.rfl
   rename_i p;grind[BL,P4,St]
  cases h
 |seq a b y D=>
  intro u h m T st;simp only[qu]at h;split at h
  .cases m;.rfl
   rename_i m;grind[ic,iQ]
  cases h
 |cond x a b y D=>
  intro u h m T st;simp only[qu]at h;split at h
  .cases m;.rfl
   rename_i m;grind[ic,iQ,jI]
  cases h
 |block id a y=>
  intro u h m T st;simp only[qu]at h;split at h
  .cases m;.rfl
   rename_i m;grind[ic,iQ]
  cases h
 |loop a y=>
  intro u h m T st;simp only[qu]at h;split at h
  .induction m generalizing T st with
   |zero=>rfl
   |succ m F=>grind[ic,iQ,St]
  cases h
 |rangeFunc _ _ _ _=>intro u h;cases h
 |scope _=>intro u h;cases h
 |label _=>intro u h;cases h
 |goto _=>intro u h;cases h
 |refuse _=>intro u h;cases h
def cO(P:aA)(gl:bH)(aae:eE)(n:R)(c:CC)(T:VT)(st:aG):qv:=open Classical in if h:∃r m,iQ P gl aae n m c T st=O r then O (acg h)else X
theorem aEE:∀(m:R) (c:CC) (T:VT) (st:aG) (r:jH),iQ P gl aae n m c T st=O r->iQ P gl aae n (m+1) c T st=O r:=by
 intro m;induction m with
 |zero=>intro c T st r h;cases h
 |succ m u=>
  intro c T st r h;cases c with
  |skip=>exact h
  |exit id=>exact h
  |ret=>exact h
  |bh l o=>exact h
  |wb ks l o=>exact h
  |xQ l b o=>exact h
  |seq a b=>grind[iQ]
  |cond x a b=>grind[iQ]
  |block id a=>grind[iQ]
  |loop o a=>grind[iQ]
theorem Qs(u:m<=k){c:CC}(h:iQ P gl aae n m c T st=O r):iQ P gl aae n k c T st=O r:=by
 obtain⟨d,rfl⟩:=Oy u;clear u;induction d with
 |zero=>exact h
 |succ d y=>exact aEE _ _ _ _ _ y
theorem ja{c:CC}:cO P gl aae n c T st=O r↔∃m,iQ P gl aae n m c T st=O r:=by
 unfold cO;constructor
 .intro h;split at h;.grind
  cases h
 rintro⟨m,h⟩
 have u:∃r m,iQ P gl aae n m c T st=O r:=⟨r,m,h⟩;obtain⟨k⟩:=Et u;have a:=Qs (wU m k) h;grind[Qs,adw]
def PE{c:Code}{u:CC}(h:qu P pf c=O u):CQ P pf gl aae n c T st=cO P gl aae n u T st:=by
 refine Dp λ r=>?_
 rw[Ll,ja];simp[aFR c h]
def aiy:cO P gl aae n .skip T st=O (.normal,T,st):=ja.2 ⟨1,Q⟩
def akG:cO P gl aae n .ret T st=O (.ret,T,st):=ja.2 ⟨1,Q⟩
def anB{id:R}:cO P gl aae n (.exit id) T st=O (.exit id,T,st):=ja.2 ⟨1,Q⟩
def L0(o:ze):qe->qv
 |O (T,st)=>O (.normal,qX o T st)
 |X=>X
def alY{l:jh}{o:ze}:cO P gl aae n (.bh l o) T st=L0 o (pF P gl aae n l T st):=by
 refine Dp λ r=>⟨λ h=>?_,λ h=>ja.2 ⟨1,h⟩⟩
 obtain⟨m,hm⟩:=ja.1 h;cases m;.cases hm
 rename_i m;exact hm
def cZ(P:aA)(gl:bH)(aae:eE)(n:R)(l:jh)(o:ze):qe->qv
 |O (T,st)=>L0 o (pF P gl aae n l T st)
 |X=>X
def ahw{ks:bG}{l:jh}{o:ze}:cO P gl aae n (.wb ks l o) T st=cZ P gl aae n l o (uX ks T st):=by
 refine Dp λ r=>⟨λ h=>?_,λ h=>ja.2 ⟨1,?_⟩⟩
 .obtain⟨m,hm⟩:=ja.1 h;cases m;.cases hm
  rename_i m;rw[iQ]at hm;cases u:uX ks T st;.rw[u]at hm;cases hm
  rename_i p;rw[u]at hm;exact hm
 rw[iQ];cases u:uX ks T st;.rw[u]at h;cases h
 rename_i p;rw[u]at h;exact h
def acv{l:jh}{b:jQ}{o:ze}:cO P gl aae n (.xQ l b o) T st=L0 o (yU P gl aae n l b T st):=by
 refine Dp λ r=>⟨λ h=>?_,λ h=>ja.2 ⟨1,h⟩⟩
 obtain⟨m,hm⟩:=ja.1 h;cases m;.cases hm
 rename_i m;exact hm
theorem Fk{a b:CC}:cO P gl aae n (.seq a b) T st=wO (cO P gl aae n b) (cO P gl aae n a T st):=by
 refine Dp λ r=>⟨λ h=>?_,λ h=>?_⟩
 .obtain⟨m,hm⟩:=ja.1 h;cases m;.cases hm
  rename_i m;rw[iQ]at hm;split at hm;.rename_i y iz u;rw[ja.2 ⟨m,u⟩];exact ja.2 ⟨m,hm⟩
  rw[ja.2 ⟨m,hm⟩];obtain⟨e,y,iz⟩:=r;cases e with
  |normal=>simp_all
  |exit id=>rfl
  |ret=>rfl
 cases u:cO P gl aae n a T st;.rw[u]at h;cases h
 rename_i s;rw[u]at h;obtain⟨m,hm⟩:=ja.1 u;obtain⟨e⟩:=s;cases e with
 |normal=>
  obtain⟨k⟩:=ja.1 (h);refine ja.2 ⟨max m k+1,?_⟩;grind[iQ,Qs,adw]
 |exit id=>
  cases h;exact ja.2 ⟨m+1,by rw[iQ,hm]⟩
 |ret=>
  cases h;exact ja.2 ⟨m+1,by rw[iQ,hm]⟩
def Yd{x:eK}{a b:CC}:cO P gl aae n (.cond x a b) T st=Uq (cO P gl aae n a T st) (cO P gl aae n b T st) (cq gl T x):=by
 refine Dp λ r=>⟨λ h=>?_,λ h=>?_⟩
 .obtain⟨m,hm⟩:=ja.1 h;cases m;.cases hm
  rename_i m;rw[iQ]at hm;split at hm;.rename_i hx;exact hx▸ja.2 ⟨m,hm⟩
  .rename_i hx;exact hx▸ja.2 ⟨m,hm⟩
  cases hm
 unfold Uq at h;split at h;.rename_i hx;obtain⟨m,hm⟩:=ja.1 h;exact ja.2 ⟨m+1,by rw[iQ,hx];exact hm⟩
 .rename_i hx;obtain⟨m,hm⟩:=ja.1 h;exact ja.2 ⟨m+1,by rw[iQ,hx];exact hm⟩
 cases h
theorem Si{id:R}{a:CC}:cO P gl aae n (.block id a) T st=R8 id (cO P gl aae n a T st):=by
 refine Dp λ r=>⟨λ h=>?_,λ h=>?_⟩
 .obtain⟨m,hm⟩:=ja.1 h;cases m;.cases hm
  rename_i m;rw[iQ]at hm;split at hm;.rename_i j y iz u;rw[ja.2 ⟨m,u⟩];exact hm
  rw[ja.2 ⟨m,hm⟩];obtain⟨e,y,iz⟩:=r;cases e with
  |exit j=>simp_all
  |normal=>rfl
  |ret=>rfl
 cases u:cO P gl aae n a T st;.rw[u]at h;cases h
 rename_i s;rw[u]at h;obtain⟨m,hm⟩:=ja.1 u;refine ja.2 ⟨m+1,?_⟩;rw[iQ,hm];obtain⟨e⟩:=s;cases e with
 |exit j=>exact h
 |normal=>exact h
 |ret=>exact h
theorem rn{o:ze}{a:CC}:cO P gl aae n (.loop o a) T st=wO (cO P gl aae n (.loop o a)) (cO P gl aae n a (qX o T st).1 (qX o T st).2):=by
 refine Dp λ r=>⟨λ h=>?_,λ h=>?_⟩
 .obtain⟨m,hm⟩:=ja.1 h;cases m;.cases hm
  rename_i m;rw[iQ]at hm;split at hm;.rename_i y iz u;rw[ja.2 ⟨m,u⟩];exact ja.2 ⟨m,hm⟩
  rw[ja.2 ⟨m,hm⟩];obtain⟨e,y,iz⟩:=r;cases e with
  |normal=>simp_all
  |exit id=>rfl
  |ret=>rfl
 cases u:cO P gl aae n a _ _;.rw[u]at h;cases h
 rename_i s;rw[u]at h;obtain⟨m,hm⟩:=ja.1 u;obtain⟨e⟩:=s;cases e with
 |normal=>
  obtain⟨k⟩:=ja.1 (h);refine ja.2 ⟨max m k+1,?_⟩;grind[iQ,Qs,adw]
 |exit id=>
  cases h;exact ja.2 ⟨m+1,by rw[iQ,hm]⟩
 |ret=>
  cases h;exact ja.2 ⟨m+1,by rw[iQ,hm]⟩
inductive CR where
 |t (i:R)
 |c (a:R) (agg:mi) (n:R)
abbrev zm:=B CR
def zM(P:aA):B ResultVar->gw zm
 |[]=>O []
 |.tmp t::rs=>match zM P rs with|O l=>O (.t t::l)|X=>X
 |.cell a t::rs=>match HK P t,zM P rs with|O (agg,n),O l=>O (.c a agg (cond agg n 1)::l)|_,_=>X
def oV(st:aG)(T:VT):zm->rI
 |[]=>O []
 |.t t::rs=>match oV st T rs with|O l=>O (mq T t::l)|X=>X
 |.c a agg n::rs=>match wx W agg n st (mq T a),oV st T rs with|O (v,_,_),O l=>O (v::l)|_,_=>X
theorem QE:∀{rs:B ResultVar} {l:zm},zM P rs=O l->zd P st T rs=oV st T l
 |[],l,h=>by cases h;rfl
 |.tmp t::rs,l,h=>by rw[zM]at h;split at h<;>cases h;rename_i y u;rw[zd,QE u];rfl
 |.cell a t::rs,l,h=>by rw[zM]at h;split at h<;>cases h;rename_i agg m y A u;rw[zd,QE u,anK A];rfl
def yQ(rs:zm):qv->Cb
 |O (.exit _,_,_)=>X
 |O (_,T,st)=>match oV st T rs with
  |O l=>O (rQ l,st.up,st.w)
  |X=>X
 |X=>X
structure lU where
 c:CC
 n:R
 r:zm
def lz(P:aA)(pf:mh)(f:ck):gw lU:=
 match P.funcs[f]?with
 |O fn=>match fn.body with
  |O c=>match qu P pf c,zM P fn.results.toList with
   |O u,O rs=>O ⟨u,fn.ntmps,rs⟩
   |_,_=>X
  |X=>X
 |X=>X
variable{pol:pz}{bset:uk}{base:fi}
def jd(P:aA)(gl:bH)(aae:eE)(F:lU)(args:be)(S:gC):Cb:=yQ F.r (cO P gl aae (args.length+(F.n-args.length)) F.c (vo 0 args) (ez [] S))
theorem aaZ{rs:B ResultVar}{l:zm}(h:zM P rs=O l){s:qv}:GN P rs s=yQ l s:=by
 cases s;.rfl
 rename_i s;obtain⟨e⟩:=s;cases e with
 |exit id=>rfl
 |normal=>grind[GN,yQ,QE]
 |ret=>grind[GN,yQ,QE]
theorem aoW{f:ck}{F:lU}(h:lz P pf f=O F):∃fn c,P.funcs[f]? =O fn/\fn.body=O c/\qu P pf c=O F.c/\fn.ntmps=F.n/\zM P fn.results.toList=O F.r:=by grind[lz]
def Lm{f:ck}{F:lU}{r:TC}(A:lz P (pol f) f=O F)(y:bset f=W)(u:args.any ak.open=V)
 (h:jd P gl (vω P pol gl bset base) F args S=O r):vω P pol gl bset base f args S=O r:=by
 obtain⟨fn,c,h1,h2,J,D,h5⟩:=aoW A;refine aBA h1 h2 y ?_ u;rw[PE J,D,aaZ h5];exact h
def uY{f:ck}{F:lU}{S':gC}{w:mi}(A:lz P (pol f) f=O F)(y:bset f=W)(u:args.any ak.open=W)
 (h:jd P gl (vω P pol gl bset base) F args []=O (v,S',w)):vω P pol gl bset base f args S=O (v,S,W):=by
 obtain⟨fn,c,h1,h2,J,D,h5⟩:=aoW A;refine aGp (S':=S') (w:=w) h1 h2 y ?_ u;rw[PE J,D,aaZ h5];exact h
end
section
variable{a b:U}
variable{P:aA}{gl:bH}{aae:eE}{n:R}{T:VT}{st:aG}
abbrev eI(n:U):ak:=.sc (.int .i64 n)
abbrev eB(b:mi):ak:=.sc (.bool b)
def Ys{k:VT->aG->qv}:wO k (O (.normal,T,st))=k T st:=rfl
def ayF{k:VT->aG->qv}{id:R}:wO k (O (.exit id,T,st))=O (.exit id,T,st):=rfl
def aCq{k:VT->aG->qv}:wO k (O (.ret,T,st))=O (.ret,T,st):=rfl
theorem ajw{id j:R}:R8 id (O (.exit j,T,st))=if j=id then O (.normal,T,st)else O (.exit j,T,st):=rfl
def avL{id:R}:R8 id (O (.normal,T,st))=O (.normal,T,st):=rfl
def au6{id:R}:R8 id (O (.ret,T,st))=O (.ret,T,st):=rfl
def kC{u:Type}(i:R)(x:gw u)(r:B (R×u)):B (R×u):=match x with|O v=>(i,v)::r|X=>r
def avk{u:Type}{T:B (R×u)}:qG [] T=[]:=rfl
def YV{u:Type}{i:R}{l:bG}{T:B (R×u)}:qG (i::l) T=kC i (lk T i) (qG l T):=by rw[qG,List.filterMap_cons];cases lk T i<;>rfl
def tG:fN->ak
 |O v=>v
 |X=>.bp []
def auY{i:R}:mq T i=tG (lk T i):=by unfold mq;cases lk T i<;>rfl
def sC(t:R)(T:VT):fN->VT
 |O v=>(t,dg v)::T
 |X=>T
def aC6{t:R}{l:lC}:kI (t::l) T=kI l (sC t T (lk T t)):=by rw[kI];cases lk T t<;>rfl
def Pe(P:aA)(gl:bH)(aae:eE)(n:R)(l:jh):qe->qe
 |O (T,st)=>pF P gl aae n l T st
 |X=>X
def PD(n:R)(T:VT)(d:fV):kX->qe
 |O r=>O (fk n (kI r.src T) d r.v,r.st)
 |X=>X
def cQ(n:R)(T:VT)(st:aG)(d:R)(b:mi)(r:kX):ak->qe
 |.sc (.bool u)=>if u=b then PD n T (O d) r else O (fk n T (O d) .un,st)
 |.un=>O (fk n T (O d) .un,st)
 |_=>X
def auh{d:R}{c:CO}{l:jh}:pF P gl aae n (mM d c::l) T st=Pe P gl aae n l (PD n T (O d) (bw P gl aae T st (O d) c)):=by rw[pF];cases bw P gl aae T st _ c<;>rfl
def aJ4{c:CO}{l:jh}:pF P gl aae n (E c::l) T st=Pe P gl aae n l (PD n T X (bw P gl aae T st X c)):=by rw[pF];cases bw P gl aae T st X c<;>rfl
def aqS{d t:R}{b:mi}{c:CO}{l:jh}:pF P gl aae n (Qqq d t b c::l) T st=Pe P gl aae n l (cQ n T st d b (bw P gl aae T st (O d) c) (mq T t)):=by
 rw[pF,zH];cases mq T t with
 |sc a=>
  cases a with
  |bool u=>cases u<;>cases b<;>first|(cases bw P gl aae T st _ c<;>rfl)
  |_=>rfl
 |_=>rfl
def cC{u:Type}:gw u->gw (B u)->gw (B u)
 |O a,O r=>O (a::r)
 |_,_=>X
def azx{x:eK}{l:wH}:vK gl T (x::l)=cC (cq gl T x) (vK gl T l):=by rw[vK];cases cq gl T x<;>cases vK gl T l<;>rfl
def cCp(i:R):fN->gw q9->gw q9
 |O a,O r=>O ((i,a)::r)
 |_,_=>X
def aIt{i:R}{x:eK}{l:xB}:ql gl T ((i,x)::l)=cCp i (cq gl T x) (ql gl T l):=by rw[ql];cases cq gl T x<;>rfl
def oS{u:Type}:gw u->gw (gw u)
 |O a=>O (O a)
 |X=>X
def as6{x:eK}:vF gl T (O x)=oS (cq gl T x):=by rw[vF];cases cq gl T x<;>rfl
def auz{a:au}:dg (.sc a)=.sc a:=rfl
def awE{d k o:R}:dg (.ptr d k o)=.ptr d k o:=rfl
def asE{cs:be}{o:R}:dg (.rp cs o)=.rp cs o:=rfl
def arZ{d k o z:R}:dg (.ms d k o z)=.ms d k o z:=rfl
def avT{f:R}{cs:be}:dg (.fn f cs)=.fn f cs:=rfl
def asG{cs:be}:dg (.bp cs)=.bp cs:=rfl
def at7{a:au}:eZ (.sc a)=.sc a:=rfl
def auu{d k o:R}:eZ (.ptr d k o)=.ptr d k o:=rfl
def aHn{f:R}{cs:be}:eZ (.fn f cs)=.fn f cs:=rfl
def arI{d k o z:R}:eZ (.ms d k o z)=.ms d k o z:=rfl
def aJs{z:R}{a:au}:xF z (.sc a)=.sc a:=rfl
def aei{z:R}{es:aP}:xF z (.sl es none)=.sl es none:=by cases es<;>rfl
def aeL{z k:R}{es:aP}:xF z (.sl es (O (k+1)))=.sl es (O (k+1)):=by cases es<;>rfl
def avs{z:R}{e:be}{es:aP}{o:bA}:xF z (.sl (e::es) o)=.sl (e::es) o:=rfl
def aGW{z d k o:R}:xF z (.ptr d k o)=.ptr d k o:=rfl
def aHz{z:R}{cs:be}:xF z (.agg cs)=.agg cs:=rfl
def aDL{a:au}:(ak.sc a).cells=[.sc a]:=rfl
def aze{es:aP}{o:bA}:(ak.sl es o).cells=[.sl es o]:=rfl
def aHX{d k o:R}:(ak.ptr d k o).cells=[.ptr d k o]:=rfl
def atc{f:R}{cs:be}:(ak.fn f cs).cells=[.fn f cs]:=rfl
def auK{d k o z:R}:(ak.ms d k o z).cells=[.ms d k o z]:=rfl
def fc{u:lY}{o:bA}{kd:jT}{e:be}(h:es[i]? =O e)(y:e.length=sz):rD (O sz) u (.sl es o) (.sc (.int kd (i:U)))=O (.rp e 0):=by show(match(O sz),es[i]?with|O sz,O e=>if e.length=sz then O _ else X|_,_=>X)=_;simp_all
def DJ{u:BinOp}{k y:jT}:fU P u t (.sc (.int k a)) (.sc (.int y b))=match cY P u t (.int k a) (.int y b)with|O r=>lZ r|none=>none:=rfl
def akg{t:bj}{k:jT}{a b:U}:fU P .lss t (.sc (.int k a)) (.sc (.int k b))=O (eB (decide (a<b))):=by rw[DJ,Uu];rfl
def alF{t:bj}{k:jT}{a b:U}:fU P .leq t (.sc (.int k a)) (.sc (.int k b))=O (eB (decide (a<=b))):=by rw[DJ,aoP];rfl
def ahX{t:bj}{k:jT}{a b:U}:fU P .gtr t (.sc (.int k a)) (.sc (.int k b))=O (eB (decide (a>b))):=by rw[DJ,ag6];rfl
def alC{t:bj}{k:jT}{a b:U}:fU P .geq t (.sc (.int k a)) (.sc (.int k b))=O (eB (decide (a>=b))):=by rw[DJ,aoi];rfl
def OU{t:bj}{k:jT}{a b:U}:fU P .eql t (.sc (.int k a)) (.sc (.int k b))=O (eB (decide (a=b))):=by rw[DJ,alm];rfl
def R3{t:bj}{k:jT}{a b:U}:fU P .neq t (.sc (.int k a)) (.sc (.int k b))=O (eB (!decide (a=b))):=by rw[DJ,aip];rfl
def TF(h:sP (a+b)):fU P .add t (eI a) (eI b)=O (eI (a+b)):=by rw[DJ,Ir h];rfl
def aEp{b:mi}:Fp .not (eB b)=O (eB (!b)):=rfl
def VN{d:fV}{x y:eK}:bw P gl aae T st d (.mx x y)=oB (cq gl T x) λ a=>oB (cq gl T y) λ b=>cP st [] (Fx a b):=rfl
def cRd:Gc->kX
 |O (v,b,st)=>O ⟨v,[],st,.read b⟩
 |X=>X
def azL{d:fV}{tk agg:mi}{m:R}{x:eK}:bw P gl aae T st d (.ld tk agg m x)=oB (cq gl T x) λ a=>cRd (wx tk agg m st a):=by
 rw[bw];cases cq gl T x;.rfl
 rename_i a;simp[oB];cases wx tk agg m st a<;>rfl
def cRv(st:aG):fN->kX
 |O v=>O ⟨v,[],st,.read X⟩
 |X=>X
def at9{d:fV}{sl:bA}{str:mi}{x:eK}{lo u:Eh}:bw P gl aae T st d (.sx sl str x lo u)=oB (cq gl T x) λ a=>oB (vF gl T lo) λ l=>oB (vF gl T u) λ h=>cRv st (AN sl str a l h):=by
 rw[bw];cases cq gl T x;.rfl
 rename_i a;unfold oB;cases vF gl T lo;.rfl
 rename_i l;cases vF gl T u;.rfl
 rename_i h;simp;cases AN sl str a l h<;>rfl
def Cf(k:R)(v:ak)(src:lC):gw aG->kX
 |O st=>O ⟨v,src,st,.new V⟩
 |X=>X
def axh{k:R}{z:be}:bw P gl aae T st (O k) (.al z)=Cf k (.ptr st.up.length k 0) [] (iX T st k z):=by rw[bw,oB];cases iX T st k z<;>rfl
def Fl(T:VT)(st:aG)(k:R)(tk:mi)(src:lC)(v:ak):kX:=
 match v.ji with
 |V=>X
 |W=>Cf k (.ptr st.up.length k 0) (cond tk src []) (iX T st k (cond tk v.cells (dg v).cells))
def aBG{k:R}{tk:mi}{x:eK}:bw P gl aae T st (O k) (.bx tk x)=oB (cq gl T x) λ v=>Fl T st k tk (bU x) v:=by
 simp[bw,oB];cases cq gl T x;.rfl
 rename_i v;simp[Fl];cases v.ji
 .cases tk;.simp;cases iX T st k _<;>rfl
  simp;cases iX T st k _<;>rfl
 rfl
def cBs(sz:R)(st:aG):Eg->kX
 |O es=>O ⟨.sl es (O sz),[],st,.new W⟩
 |X=>X
def aw6{d:fV}{sz m:R}{z:be}{u:xB}:bw P gl aae T st d (.bs sz z m u)=oB (ql gl T u) λ l=>cBs sz st (sF sz (ef m z) l):=by
 rw[bw];cases ql gl T u;.rfl
 rename_i l;simp[oB];cases sF sz _ l<;>rfl
def cSt(src:lC):MK->kX
 |O (st,d,k)=>O ⟨.bp [],src,st,.eO (.box d k)⟩
 |X=>X
def aA5{d:fV}{m:R}{x v:eK}:bw P gl aae T st d (.st m x v)=oB (cq gl T x) λ p=>oB (cq gl T v) λ w=>cSt (bU v) (D7 st m p w):=by
 rw[bw];cases cq gl T x;.rfl
 rename_i p;unfold oB;cases cq gl T v;.rfl
 rename_i w;simp;cases D7 st m p w<;>rfl
def cAq(src:lC)(st:aG):fN->kX
 |O v=>O ⟨v,src,st,.eO .clean⟩
 |X=>X
def aFE{d:fV}{sz:R}{s x:eK}:bw P gl aae T st d (.ap sz s x)=oB (cq gl T s) λ a=>oB (cq gl T x) λ b=>cAq (bU s) st (qt st sz a b):=by
 rw[bw];cases cq gl T s;.rfl
 rename_i a;unfold oB;cases cq gl T x;.rfl
 rename_i b;simp;cases qt st sz a b<;>rfl
def cCr(st:aG)(ms:mi):Cb->kX
 |O (v,F::S,d)=>match ms&& !(AJ v)with|W=>O ⟨v,[],{w:=st.w||d,cur:=F,up:=S},.eO (rY d)⟩|V=>X
 |_=>X
def axg{v:ak}{F:xH}{S:gC}{d:mi}:cCr st W (O (v,F::S,d))=O ⟨v,[],{w:=st.w||d,cur:=F,up:=S},.eO (rY d)⟩:=rfl
def cLr(st:aG):fN->Gc
 |O v=>O (dg v,X,st)
 |X=>X
def aGU{tk agg:mi}{m off:R}{cs:be}:wx tk agg m st (.rp cs off)=cLr st (pL agg m cs off):=by rw[wx];cases pL agg m cs off<;>rfl
def RC(tk agg:mi)(st:aG)(d k off:R)(cs:be):fN->Gc
 |O v=>cond tk (O (v,O (d,k),tR st d k (eR cs off ((cond agg v.cells [v]).map eZ)))) (O (dg v,O (d,k),st))
 |X=>X
def aym{agg:mi}{d k off:R}{cs:be}{v:ak}:RC W agg st d k off cs (O v)=O (dg v,O (d,k),st):=rfl
def aFC{agg:mi}{d k off:R}{cs:be}{v:ak}:RC V agg st d k off cs (O v)=O (v,O (d,k),tR st d k (eR cs off ((cond agg v.cells [v]).map eZ))):=rfl
def cLp(tk agg:mi)(m:R)(st:aG)(d k off:R):rI->Gc
 |O cs=>RC tk agg st d k off cs (pL agg m cs off)
 |X=>X
theorem avt{tk agg:mi}{m off d k:R}:wx tk agg m st (.ptr d k off)=cLp tk agg m st d k off (cu st d k):=by grind[wx,cLp,RC]
def aBv{k:R}{cs:be}:uu [] k cs=[]:=rfl
def abj{i k:R}{v cs:be}{F:xH}:uu ((i,v)::F) k cs=(if i=k then(k,cs)else(i,v))::uu F k cs:=rfl
def Oa{F:xH}(h:jW S d k=O cs):jW (F::S) d k=O cs:=by show(if d=S.length then _ else _)=_;rw[aR (by have:=rF h;omega)];exact h
def nB(b:mi)(st:aG)(k:R)(cs:be):gw aG:=match b with|V=>O {st with cur:=(k,cs)::np k st.cur}|W=>X
theorem axI{k:R}{cs:be}:iX T st k cs=nB (wz st.up.length k T&&xO st.up.length k (np k st.cur)&&qd st.up.length k cs&&cs.all ak.cell) st k cs:=by grind[iX,nB]
def aB3{u:Type}{k:R}:np k ([]:B (R×u))=[]:=rfl
theorem axi{α:Type}{i k:R}{v:α}{F:B (R×α)}:np k ((i,v)::F)=if i=k then np k F else(i,v)::np k F:=by grind[np]
def auO{d k:R}{a:au}:qy d k (.sc a)=true:=rfl
def arj{d k:R}{es:aP}{o:bA}:qy d k (.sl es o)=true:=rfl
def aCP{d k:R}{cs:be}{o:R}:qy d k (.rp cs o)=true:=rfl
def aEy{a:au}:(ak.sc a).cell=true:=rfl
def arN{es:aP}{o:bA}:(ak.sl es o).cell=true:=rfl
def aBy{d k o:R}:(ak.ptr d k o).cell=true:=rfl
def aBl{f:R}{cs:be}:(ak.fn f cs).cell=true:=rfl
def aHQ{d k o z:R}:(ak.ms d k o z).cell=true:=rfl
def avm{k:R}{tk:mi}{src:lC}{a:au}:Fl T st k tk src (.sc a)=Cf k (.ptr st.up.length k 0) (cond tk src []) (iX T st k [.sc a]):=by cases tk<;>rfl
def aCL{k:R}{tk:mi}{src:lC}{es:aP}{o:bA}:Fl T st k tk src (.sl es o)=Cf k (.ptr st.up.length k 0) (cond tk src []) (iX T st k [cond tk (.sl es o) (.sl es X)]):=by cases tk<;>rfl
def aF6{k:R}{tk:mi}{src:lC}{cs:be}:Fl T st k tk src (.agg cs)=Cf k (.ptr st.up.length k 0) (cond tk src []) (iX T st k (cond tk cs (cs.map eZ))):=by cases tk<;>rfl
def arh{k:R}{tk:mi}{src:lC}{d i o:R}:Fl T st k tk src (.ptr d i o)=Cf k (.ptr st.up.length k 0) (cond tk src []) (iX T st k [.ptr d i o]):=by cases tk<;>rfl
def aDj{k:R}{tk:mi}{src:lC}{f:R}{cs:be}:Fl T st k tk src (.fn f cs)=Cf k (.ptr st.up.length k 0) (cond tk src []) (iX T st k [.fn f cs]):=by cases tk<;>rfl
def cSb(b:mi)(st:aG)(d k off:R)(cs v:be):MK:=match b with|V=>O (tv st d k (eR cs off v),d,k)|W=>X
def Ye(m:R)(st:aG)(d k off:R)(v:ak):rI->MK
 |O cs=>cSb (!v.ji&&(v.cells.length==m&&(decide (off+m<=cs.length)&&((d==st.up.length||v.cells.all ak.data)&&v.cells.all ak.cell)))) st d k off cs v.cells
 |X=>X
def ar5{m d k off:R}{v:ak}:D7 st m (.ptr d k off) v=Ye m st d k off v (cu st d k):=by
 rw[D7];cases cu st d k;.rfl
 rename_i cs;simp[Ye];cases v.ji<;>cases (v.cells.length==m)<;>cases decide (off+m<=cs.length)<;>cases ((d==st.up.length||v.cells.all _)&&v.cells.all _)<;>rfl
def aIO{a:au}:(ak.sc a).ji=false:=rfl
def aIu{es:aP}{o:bA}:(ak.sl es o).ji=false:=rfl
def awx{cs:be}:(ak.agg cs).ji=false:=rfl
def aGI{d k o:R}:(ak.ptr d k o).ji=false:=rfl
def aJQ{f:R}{cs:be}:(ak.fn f cs).ji=false:=rfl
theorem xT{p:Prop}(h:p:=by unfold sP;omega):p:=h
def nZ(h:i<=4611686018427387904):fU P .add t (.sc (.int .i64 (i:U))) (.sc (.int .i64 1))=O (eI ((i+1:R):U)):=by rw[TF xT];rfl
def cFr(st:aG):rI->Cb
 |O l=>O (rQ l,st.up,st.w)
 |X=>X
def aJo{rs:zm}:yQ rs (O (.ret,T,st))=cFr st (oV st T rs):=by simp[yQ];cases oV st T rs<;>rfl
def azg{t:R}{rs:zm}:oV st T (.t t::rs)=cC (O (mq T t)) (oV st T rs):=by rw[oV];cases oV st T rs<;>rfl
def afS:Gc->fN
 |O (v,_,_)=>O v
 |X=>X
def aCV{a m:R}{agg:mi}{rs:zm}:oV st T (.c a agg m::rs)=cC (afS (wx W agg m st (mq T a))) (oV st T rs):=by rw[oV];cases wx W agg m st _<;>cases oV st T rs<;>rfl
def avc{v w:ak}:rQ [v,w]=.bp [dg (po v),dg (po w)]:=rfl
def aA1{v w u:ak}:rQ [v,w,u]=.bp [dg (po v),dg (po w),dg (po u)]:=rfl
def asK{d k o:R}:po (.ptr d k o)=.bp []:=rfl
def aJ3{S:gC}{a:au}:mA S (.sc a)=.sc a:=rfl
def aqq{S:gC}{es:aP}{o:bA}:mA S (.sl es o)=.sl es none:=rfl
def auJ{S:gC}{d k o:R}:mA S (.ptr d k o)=.ptr d k o:=rfl
def aAr{S:gC}{f:R}{cs:be}:mA S (.fn f cs)=.fn f cs:=rfl
def axq{S:gC}{cs:be}:mA S (.agg cs)=.agg (cs.map eZ):=rfl
def aFs{a:au}:(ak.sc a).kZ=false:=rfl
def ar9{es:aP}{o:bA}:(ak.sl es o).kZ=false:=rfl
def aAd{d k o:R}:(ak.ptr d k o).kZ=false:=rfl
def au5{f:R}{cs:be}:(ak.fn f cs).kZ=false:=rfl
def aHa{cs:be}:(ak.agg cs).kZ=false:=rfl
def cK(P:aA)(aae:eE)(st:aG):fN->rI->kX
 |O (.fn g cap),O l=>match ly P g with
  |V=>match aae g ((l++cap).map (mA (st.cur::st.up))) (st.cur::st.up)with
   |O (v,F::S,d)=>
    (match(l++cap).any ak.kZ&&(!(AJ v)||((l++cap).map (mA (st.cur::st.up))).any ak.open)with
     |W=>O ⟨v,[],{w:=st.w||d,cur:=F,up:=S},.eO (rY d)⟩
     |V=>X)
   |_=>X
  |W=>X
 |_,_=>X
def aDc{d:fV}{f:eK}{args:wH}:bw P gl aae T st d (.cl f args)=cK P aae st (cq gl T f) (vK gl T args):=rfl
def iA{g:R}{cap l:be}(u:ly P g=V)(hm:(l++cap).any ak.kZ=W):cK P aae st (O (.fn g cap)) (O l)=cCr st W (aae g ((l++cap).map (mA (st.cur::st.up))) (st.cur::st.up)):=by
 rw[cK,u,hm];cases aae g _ _;.rfl
 rename_i r;obtain⟨v,S⟩:=r;cases S<;>rfl
end
section
variable{P:aA}{ng:R}{gl:bH}{G:Gh}{H H':aj}
def eh(I:Im)(H H':aj):Im:=λ u=>if u<H.ae then I u else H'.ah.get u
theorem RQ(y:cH G (eJ []) H):bO G.I (eh G.I H H'):=λ u r e=>by unfold eh;rw[aY (y.lt e).1];exact e
theorem abc(h:H.ae<=u):eh G.I H H' u=H'.ah.get u:=by grind[eh]
def Cc:cu (eJ []) d k=none:=by unfold cu eJ;split<;>rfl
theorem yX(y:cH G (eJ []) H)(g:Good H')(fr:Fr X H H')(D:iU H H')(F:aJ ρ0 (eh G.I H H') v a)(J:∀(j:R) (es:aP) (sz:R) (c:au),v.cells[j]? =O (ak.sl es (O sz))->a.cells[j]? =O c->es=[]/\c=.aq):
 iV 0 G [] H (O (a,H')) v [] false:=by
 refine⟨a,H',{G with I:=eh _ H H'},Q,⟨g,λ u r e=>?_,λ d k cs e=>?_,λ d k Y S cs P u e=>?_,λ f s e=>?_,λ d k u e=>eU (y.oT d k u e) fr.ae⟩,⟨RQ y,λ _ _ _=>rfl,λ _ _=>rfl,λ d k u h=>?_,fr.ae,λ u hu=>.inl ?_,λ _ _ _ e=>⟨e,Q⟩,Q,λ u r e hu=>?_,λ f s e _=>⟨s,e⟩,λ f K _=>?_⟩,F,λ j es sz a e e2=>.inl (J j es sz a e e2)⟩
 .have e:eh _ H H' u=O r:=e;unfold eh at e;split at e;.exact fr.row u r (y.gI u r e) aw
  exact e
 .rw[Cc]at e;cases e
 .rw[Cc]at e;cases e
 .obtain⟨N,mem,M,A⟩:=y.aI f s e;refine⟨eU N fr.ae,mem,fr.aV f mem M aw,λ u hu=>⟨eU (A u hu).1 fr.ae,λ ru e=>?_⟩⟩;cases hx:H.ah.get u;.rw[D.2.1 u (A u hu).1 hx]at e;cases e
  rename_i r0;rw[fr.row u r0 hx aw]at e;cases e;exact(A u hu).2 _ hx
 .rw[Cc]at h;cases h
 .cases hx:H.ah.get u;.exact D.2.1 u hu hx
  rename_i r0;exact fr.row u r0 hx aw
 .grind[eh]
 .cases hx:H.aV.get f;.exact D.2.2 f K hx
  rename_i m;exact fr.aV f m hx aw
theorem alO(A:cH G (eJ []) H)(g:Good H')(fr:Fr none H H')(K:iU H H'){cells:aF}{ex:mi}(hu:H.ae<=u)(y:H'.ah.get u=O ⟨cells,u,0,ex,false,sz⟩)(N:H'.aV.get u=O [u])(M:cells.length=es.length*sz)(F:0<sz)(hr:cx (eh G.I H H') sz es cells):
 iV 0 G [] H (O (.slice u 0 es.length none,H')) (.sl es (O sz)) [] false:=by
 have aa:=(g.wf u _ y).1;have S:eh G.I H H' u=O _:=(abc hu)▸y
 have Z:G.own u=none:=by
  cases hx:G.own u;.rfl
  rename_i s;have:=(A.aI u s hx).1;omega
 refine⟨_,H',{G with I:=eh _ H H',own:=λ f=>if f=u then O (.tmp 0 0 0)else G.own f,tp:=λ f=>if f=u then cells.length else G.tp f},Q,⟨g,λ u r e=>?_,λ d k cs e=>?_,λ d k d' k' cs ac u e=>?_,λ f s e=>?_,λ d k u e=>eU (A.oT d k u e) fr.ae⟩,⟨RQ A,λ _ _ _=>rfl,λ _ _=>rfl,λ d k u h=>?_,fr.ae,λ u hu=>.inl ?_,λ f s _ e=>?_,Q,λ u r e hu=>?_,λ f s e P=>?_,λ f P _=>?_⟩,?_,λ j ab Y a e1 e2=>?_⟩
 .have e:eh _ H H' u=O r:=e;unfold eh at e;split at e;.exact fr.row u r (A.gI u r e) aw
  exact e
 .rw[Cc]at e;cases e
 .rw[Cc]at e;cases e
 .have e:(if f=u then O _ else G.own f)=O s:=e;by_cases D:f=u;.grind
  rw[aR D]at e;obtain⟨f1,mem,f2,J⟩:=A.aI f s e;refine⟨eU f1 fr.ae,mem,fr.aV f mem f2 aw,λ u hu=>⟨eU (J u hu).1 fr.ae,λ ru e=>?_⟩⟩;show ru.start+ru.cells.length<=(if f=_ then cells.length else G.tp f);rw[aR D];cases hx:H.ah.get u;.rw[K.2.1 u (J u hu).1 hx]at e;cases e
  rename_i r0;rw[fr.row u r0 hx aw]at e;cases e;exact(J u hu).2 _ hx
 .rw[Cc]at h;cases h
 .cases hx:H.ah.get u;.exact K.2.1 u hu hx
  rename_i r0;exact fr.row u r0 hx aw
 .grind
 .grind[eh]
 .grind
 .cases hx:H.aV.get f;.exact K.2.2 f P hx
  rename_i m;exact fr.aV f m hx aw
 .right;refine⟨u,0,none,_,sz,Q,S,.inr ⟨Q,Q⟩,by simp;omega,?_⟩;grind
 .cases j;.simp[au.cells]at e2;obtain⟨rfl⟩:=e1;subst e2;exact .inr ⟨u,0,_,Q,S,Q,F,Q,by simp;omega,aY Q,bP⟩
  rename_i j;simp[ak.cells]at e1
end
section
abbrev DF(s:String)(h:{l:B Char//s=String.ofList l}:=by exact⟨_,rfl⟩):B Char:=h.1
abbrev cv{α:Type}(x:α)(h:{b:α//x=b}:=by refine⟨?_,?_⟩;rotate_left;(conv=>lhs;cbv;(try simp only[Int.reduceOfNat,Int.reduceNegSucc]))):α:=h.1
structure DS where
 l:bG
 m:R
 q:R
abbrev DP(α:Type):=DS->α×DS
variable{α β:Type}
def MS(x:α):DP α:=λ s=>(x,s)
def fT(h:α->β)(g:DP α):DP β:=λ s=>match g s with|(x,s)=>(h x,s)
def gm(f:DP (α->β))(g:DP α):DP β:=λ s=>match f s with|(h,s)=>match g s with|(x,s)=>(h x,s)
def dnr:R->bG->R×bG
 |a,[]=>(a,[])
 |a,c::l=>if c<20 then(a*20+c,l)else dnr (a*20+(c- 20)) l
def dn:DP Nat:=λ s=>match dnr 0 s.l with|(n,l)=>(n,⟨l,s.m,s.q⟩)
def zz(n:R):Int:=if n%2=0 then .ofNat (n/2)else .negSucc (n/2)
def dz:DP Int:=fT zz dn
def ans(f:DP α):R->DP (B α)
 |0=>MS []
 |n+1=>gm (fT .cons f) (ans f n)
def dl(f:DP α):DP (B α):=λ s=>match dn s with|(n,s)=>ans f n s
def qD(f:DP α)(g:DP β):DP (α×β):=gm (fT .mk f) g
def YW(f:DP α):DP (gw α):=λ s=>match dn s with
 |(0,s)=>(X,s)
 |(_,s)=>fT O f s
def dsy:bG->bG
 |[]=>[]
 |v::l=>if v<57 then v::dsy l else match l with
  |[]=>[]
  |w::l=>(64+(v- 57)*64+w)::dsy l
def E5{α:Type}(d:α):B α->R->α
 |[],_=>d
 |x::_,0=>x
 |_::l,n+1=>E5 d l n
def aga{α:Type}(l:B (B (B α)))(n:R):B α:=E5 [] (E5 [] l (n/16)) (n%16)
def Wj(s:B Char):bG:=dsy (s.map λ c=>let n:=c.toNat;if n<60 then n- 46 else if n<91 then n- 53 else n- 59)
def YQ(t:B jQ):R->R->bG
 |0,_=>[]
 |n+1,i=>if 12<=i/\i<52 then[i- 12]else match aga t (if i<12 then i else i- 40)with
  |[a,b]=>YQ t n a++YQ t n b
  |_=>[]
def Qb{α:Type}(n:R):R->B α->B (B α)
 |0,_=>[]
 |k+1,l=>l.take n::Qb n k (l.drop n)
def Vo(s:B Char)(n:R):B jQ:=
 let t:=Qb 16 n (Qb 2 (16*n) (Wj s))
 Qb 16 n ((vv (16*n)).map (YQ t 99))
def XO(t:B jQ):bG->bG
 |[]=>[]
 |i::l=>aga t i++XO t l
def dec(t:B jQ)(f:DP α)(s:B Char):α:=(f ⟨XO t (Wj s),0,0⟩).1
def dhx:bG->Nat:=List.foldr (λ d a=>d+16*a) 0
end
end
end Go.Abs
