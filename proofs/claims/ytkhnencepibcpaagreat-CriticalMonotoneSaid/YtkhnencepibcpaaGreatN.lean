/- The finder. -/
import Derived.Test.YtkhnencepibcpaaGreatB
import Derived.Test.YtkhnencepibcpaaGreatF
import Derived.Test.YtkhnencepibcpaaGreatG
import Derived.Test.YtkhnencepibcpaaGreatK
import Derived.Test.YtkhnencepibcpaaGreatM
set_option linter.all false
set_option maxRecDepth 100000
open BitVec renaming allOnes->agr
open Bool renaming false->W,true->V
open Go.Proofs.Tryz renaming underlying365->asc,underlying50->pv,underlying51->aeR
open Int renaming ofNat->gu
open List renaming drop_eq_getElem_cons->acR,getElem?_eq_some_iff->aa3,length_map->HY,replicate->ef
open Nat renaming beq->gr,ble->th,reduceAdd->et,reduceBEq->eF
open Option renaming none->X,some->O
open _root_ renaming Bool->mi,Int->U,List->B,Nat->R,Option->gw,reduceIte->ky,rfl->Q
namespace Go.Abs
noncomputable section
open Go Go.Proofs
variable{a b s:au}{aae:bg}{es l ns:aK}{fm:bA}{g:fE}{i n off v:R}{j:mi}{o:ak}{te:aP}{xs:aF}
section
variable{d:mi}{aag:dV}
variable{ng:R}{I:Im}{H K:aj}{G:Gh}
def ap8{P:aA}{id:R}{T:aM}{H:aj}{Qqq:nv}(h:bB P ng aae n (.region id aag d) T H λ e u y=>(∀t,ee aag.toList t=V->ai u t=ai T t)->Qqq e u y):bB P ng aae n (.region id aag d) T H Qqq:=by
 obtain⟨m,e,u,y,h1,h2⟩:=h;refine⟨m,e,u,y,h1,h2 ?_⟩;cases m;.cases h1
 rename_i m;have h1:rG (kK P ng aae n aag T H d)=O (e,u,y):=h1;cases hx:kK P ng aae n aag T H d;.rw[hx]at h1;cases h1
 rename_i x;rw[hx]at h1;cases h1;exact ZJ hx
def aim:ak->mi
 |.sl _ (O _)=>W
 |_=>V
def anH{G:Gh}:∀{u:be} {xs:aF} {s:R->nq},u.all aim=V->tH G s u xs
 |[],_,_,_=>λ j es sz a e _=>by cases e
 |v::u,xs,s,h=>λ j es sz a e1 e2=>by
  rw[ny,bq]at h
  match j,xs with
  |0,_=>
   have e1:v=.sl es (O sz):=tO e1;rw[e1]at h;cases h.1
  |j+1,[]=>cases e2
  |j+1,_::bs=>exact anH (s:=λ i=>s (i+1)) h.2 j es sz a e1 e2
def aj4{α:Type}:∀{T:B (R×α)} {i:R} {v:α},lk T i=O v->(i,v)∈T
 |[],_,_,h=>by cases h
 |(j,w)::T,i,v,h=>by
  have h:(if j=i then O w else lk T i)=O v:=h;split at h;.rename_i e;cases h;subst e;exact dJ ..
  exact cV _ (aj4 h)
abbrev WA:aG:=(ez [] [])
def QD{pf:mh}{id:R}{S:CC}{T T2:VT}{P:aM}{Qqq:nv}(hm:qu af pf (.region id aag d)=O S)(M:Good K)(Y:∀p∈T,aJ ρ0 K.ah.get p.2 (ai P p.1)/\p.2.cells.all aim=V)
 (F:cO af js (VW js pI) n S T WA=O (.normal,T2,WA)) (Z:∀y A,Good A->Fr X K A->(∀t,ee aag.toList t=V->ai y t=ai P t)->(∀i a,lk T2 i=O (.sc a)->ai y i=a)->Qqq .normal y A):bB af ng (bZ ng) n (.region id aag d) P K Qqq:=by
 refine ap8 (aEZ (Vd (ng:=ng)) hm (G:=Mn K.ah.get) (D:=0) (st:=WA) ⟨vs0 M (bO.refl _),λ i v e=>?_,Q,uT⟩ F λ y A G2 ok J fr=>Z y A ok.cA.gd ?_ fr λ i a e=>?_);.obtain⟨h1,h2⟩:=Y _ (aj4 e);exact⟨wW (λ d k u e=>bk) (bO.refl _) _ _ h1,anH h2⟩
 .refine⟨λ u r e _=>?_,λ f m e _=>?_,J.ae⟩
  .rcases J.rows u (M.wf u r e).1 with N|⟨d,k,_,N,_⟩
   .rw[N];exact e
   cases d<;>cases N
  rw[J.aV f (M.mem f m e).1 Q];exact e
 .have:=(ok.tmp i (.sc a) e).1;simp only[aJ]at this;exact this.1
end
section
variable{ng:R}{I:Im}{H K:aj}{G:Gh}
abbrev jO:=B (aK×aK)
def tf(x:aK×aK):be:=[aO x.1,aO x.2]
def mI:Sh (aK×aK):=vE (m9 wq) (m9 wq)
def alI:vD mI tf:=wA (Sl zl) (Sl zl)
def FV.c9(D:FV):be:=[aO D.pN,gS D.pE,aO D.hN,gS D.hE,.sl (D.bl.map λ r=>[xS r]) X,aO D.qN,aO D.qE,eB D.inj,eI D.lim]
def FV.aaj{D:FV}{ns es:aK}:D.c ns es o=D.c9++[aO ns,aO es,o]:=rfl
def bz(u:R)(a b c:bA)(f:R):Prop:=f<=u\/a=O f\/b=O f\/c=O f
structure FSx (H0:aj) (I:Im) (u:R) (D:FV) (xs:aF) (ns es:aK) (out:jO) (K:aj) (sn se so:au) (fn fe fo:bA) (cs:aF):Prop where
 g0:Good H0
 hu:H0.ae<=u
 im:bO I H0.ah.get
 Bc:dq I D.c9 xs
 gd:Good K
 fr:Fr none H0 K
 box:qJ K u ⟨xs++[sn,se,so],u,0,true,false,1⟩
 on:cm K 1 ns.length sn (ints ns) fn
 oe:cm K 1 es.length se (ints es) fe
 oo:cm K 2 out.length so cs fo
 el:∀i x,out[i]? =some x->mI.rel K.ah.get (bz u fn fe fo) x (iF cs 2 i)
 n1:∀f,fn=some f->u<f
 n2:∀f,fe=some f->u<f
 n3:∀f,fo=some f->u<f
 d1:∀f,fn=some f->fe≠some f/\fo≠some f
 d2:∀f,fe=some f->fo≠some f
def FSx.xk{H0:aj}{u:R}{D:FV}{xs:aF}{ns es:aK}{out:jO}{sn se so:au}{fn fe fo:bA}{cs:aF}(s:FSx H0 I u D xs ns es out K sn se so fn fe fo cs):xs.length=9:=by have:=wm s.Bc;rw[this];rfl
theorem cm.Qk(h:cm K 1 l.length s (ints l) fm):RP K.ah.get (aO l) s:=by
 show RP _ (.sl (l.map λ n=>[eI n]) X) _;simp only[RP,br];obtain⟨h1,⟨rfl,h2,_⟩|⟨v,r,rfl,o,u,A,y,_⟩⟩:=h;.grind
 refine .inr ⟨v,0,X,r,1,Q,o.row,.inr ⟨Q,u⟩,aa,?_⟩;rw[gU,y];exact FD
section
variable{H0:aj}{u:R}{D:FV}{xs:aF}{ns es:aK}{out:jO}{sn se so:au}{fn fe fo:bA}{cs:aF}
def FSx.imK(s:FSx H0 I u D xs ns es out K sn se so fn fe fo cs):bO I K.ah.get:=λ v r e=>s.fr.row v r (s.im v r e) aw
theorem FSx.rpO(s:FSx H0 I u D xs ns es out K sn se so fn fe fo cs):RP K.ah.get (.sl (out.map tf) X) so:=by
 simp only[RP,br];obtain⟨h1,⟨h2,J,_⟩|⟨v,r,h2,o,y,F,A,_⟩⟩:=s.oo;.grind
 refine .inr ⟨v,0,X,r,2,h2,o.row,.inr ⟨Q,y⟩,aa,?_⟩;rw[gU,A];exact RZ alI (S:=bz u fn fe fo) (λ _ _ e _=>e) h1 s.el
def FSx.rp(s:FSx H0 I u D xs ns es out K sn se so fn fe fo cs):aJ ρ0 K.ah.get (.rp (D.c ns es (.sl (out.map tf) X)) 0) (.ptr u 0):=by
 simp only[aJ];have y:=s.xk;refine⟨u,0,_,Q,s.box.row,?_,?_⟩;.rw[FV.aaj];simp[y,FV.c9]
 rw[gU,mT (by rw[FV.aaj];simp[y,FV.c9]),FV.aaj];exact aaa (B0 s.imK _ _ s.Bc) ⟨_,_,Q,s.on.Qk,_,_,Q,s.oe.Qk,_,_,Q,s.rpO,Q⟩
theorem FSx.cell(s:FSx H0 I u D xs ns es out K sn se so fn fe fo cs){c:au}(h:(xs++[sn,se,so])[i]? =O c):aQ K.ah.get u i 1=O [c]:=by have y:i+1<=(xs++[sn,se,so]).length:=(pC.1 h).1;simp only[aQ,s.box.row,cD y];grind[aa3,acR]
def FSx.YJ(s:FSx H0 I u D xs ns es out K sn se so fn fe fo cs):aQ K.ah.get u 9 1=O [sn]:=s.cell (by rw[uH (by rw[s.xk];omega),s.xk];rfl)
def FSx.XC(s:FSx H0 I u D xs ns es out K sn se so fn fe fo cs):aQ K.ah.get u 10 1=O [se]:=s.cell (by rw[uH (by rw[s.xk];omega),s.xk];rfl)
def FSx.als(s:FSx H0 I u D xs ns es out K sn se so fn fe fo cs):aQ K.ah.get u 11 1=O [so]:=s.cell (by rw[uH (by rw[s.xk];omega),s.xk];rfl)
theorem FSx.Nd(s:FSx H0 I u D xs ns es out K sn se so fn fe fo cs){c:au}(h:xs[i]? =O c):aQ K.ah.get u i 1=O [c]:=s.cell (by grind[List.getElem?_append_left,aa3])
def FSx.keep{y:aj}(s:FSx H0 I u D xs ns es out K sn se so fn fe fo cs)(fr:Fr X K y)(g:Good y):FSx H0 I u D xs ns es out y sn se so fn fe fo cs:=⟨s.g0,s.hu,s.im,s.Bc,g,s.fr.trans fr,s.box.keep fr aw,s.on.nQ fr,s.oe.nQ fr,s.oo.nQ fr,λ i x h=>mI.nQ fr (s.el i x h),s.n1,s.n2,s.n3,s.d1,s.d2⟩
end
end
section
variable{ng:R}{I:Im}{H K:aj}{G:Gh}{H0:aj}{u:R}{D:FV}{xs:aF}{ns es:aK}{out:jO}{sn se so:au}{fn fe fo:bA}{cs:aF}
def cm.lt{sz:R}{cs:aF}(h:cm K sz n s cs fm)(g:Good K):∀f,fm=O f->f<K.ae:=λ f e=>by
 obtain⟨_,⟨_,_,h⟩|⟨v,r,_,o,_,_,_,h⟩⟩:=h;.rw[h]at e;cases e
 rw[h]at e;cases e;exact(g.wf v r o.row).2
def aj0{xs:aF}(hx:xs.length=9){c:au}:eV (xs++[a,b,c]) 9 [s]=xs++[s,b,c]:=by unfold eV;rw[US,ad8,hx,mT aa,ad9 (by rw[hx];simp)];simp
def agy{xs:aF}(hx:xs.length=9){c:au}:eV (xs++[a,b,c]) 10 [s]=xs++[a,s,c]:=by unfold eV;rw[US,ad8,hx,mT aa,ad9 (by rw[hx];simp)];simp
def awe{xs:aF}(hx:xs.length=9){c:au}:eV (xs++[a,b,c]) 11 [s]=xs++[a,b,s]:=by unfold eV;rw[US,ad8,hx,mT aa,ad9 (by rw[hx];simp)];simp
def FSx.one(s:FSx H0 I u D xs ns es out K sn se so fn fe fo cs):sn.dm=true/\se.dm=true/\so.dm=true:=⟨s.on.one,s.oe.one,s.oo.one⟩
def FSx.lu(s:FSx H0 I u D xs ns es out K sn se so fn fe fo cs):u<K.ae:=(s.gd.wf _ _ s.box.row).1
theorem FSx.azv(s:FSx H0 I u D xs ns es out K sn se so fn fe fo cs)(x:U)(hl:ns.length<=1000):∃A Y S f2,iC af (alloc K [ao x] true 1) [50,50] [sn,.slice K.ae 0 1 X]=O (A,Y)/\A.dm=true/\write Y u 9 [A]=O S/\FSx H0 I u D xs (ns++[x]) es out S A se so f2 fe fo cs:=by
 obtain⟨A,Y,f2,q1,q2,M,q4,Z⟩:=Y8 (x:=x) s.gd s.on hl;have fa:=iv s.gd [ao x] true 1;have sA:=s.keep fa (jb s.gd _ _ _);have ac:=s.lu;have hx:=s.xk;have F:A.dm=true:=q2.one;obtain⟨S,w1,w2,J,w4,w5⟩:=nK q4 (sA.box.keep M (λ e=>by have:=s.n1 _ e.symm;exact KR _ this)) (off:=9) (new:=[A]) (by simp[hx]) (by simp[F])
 have P:∀f,f2=O f->u<f:=λ f e=>by
  rcases Z with rfl|⟨f',h1,rfl⟩
  .exact s.n1 f e
  cases e;omega
 have ad:=s.oo.lt s.gd;have ab:=s.oe.lt s.gd
 have aa:∀f,f2=O f->fe≠O f/\fo≠O f:=λ f e=>by
  rcases Z with rfl|⟨f',h1,rfl⟩
  .exact s.d1 f e
  grind
 have ke:fe=X\/fe≠fn:=by
  cases fe;.exact .inl Q
  rename_i f;exact .inr λ h=>(s.d1 f h.symm).1 Q
 have ko:fo=X\/fo≠fn:=by
  cases fo;.exact .inl Q
  rename_i f;exact .inr λ h=>(s.d1 f h.symm).2 Q
 have ku:∀{f2:bA},(∀f,f2=O f->u<f)->f2=X\/f2≠O u:=λ {f2} h=>by grind
 have N:=s.hu;refine⟨A,Y,S,f2,q1,F,w1,⟨s.g0,s.hu,s.im,s.Bc,w5,(sA.fr.jv s.g0 M λ f e=>fI N (OH (s.n1 f e))).jv s.g0 J λ f e=>by cases e;exact N,(aj0 hx)▸w2,q2.keep J (ku P),(sA.oe.keep M ke).keep J (ku s.n2),(sA.oo.keep M ko).keep J (ku s.n3),λ i y hy=>?_,P,s.n2,s.n3,aa,s.d2⟩⟩
 have r0:mI.rel K.ah.get (λ g=>bz u fn fe fo g\/f2=O g) y (iF cs 2 i):=mI.ot (λ v r hv h=>by
  rcases h with h|h
  .exact h
  rcases Z with rfl|⟨f',h1,rfl⟩
  .exact .inr (.inl h)
  cases h;have:=(s.gd.wf v r hv).2;omega) (s.el i y hy)
 have r2:=mI.keep J (λ f e=>.inl (.inl (by cases e;exact aZ _))) (mI.keep M (λ f e=>.inl (.inr (.inl e))) (mI.nQ fa r0))
 exact mI.sub (λ f h=>by
  rcases h with h|h|h|h
  .exact .inl (.inl h)
  .exact .inr h
  .exact .inl (.inr (.inr (.inl h)))
  exact .inl (.inr (.inr (.inr h)))) r2
theorem FSx.aJy(s:FSx H0 I u D xs ns es out K sn se so fn fe fo cs)(x:U)(hl:es.length<=1000):∃A K2 K3 f2,iC af (alloc K [ao x] true 1) [50,50] [se,.slice K.ae 0 1 X]=O (A,K2)/\A.dm=true/\write K2 u 10 [A]=O K3/\FSx H0 I u D xs ns (es++[x]) out K3 sn A so fn f2 fo cs:=by
 obtain⟨A,K2,f2,q1,q2,M,q4,Z⟩:=Y8 (x:=x) s.gd s.oe hl;have fa:=iv s.gd [ao x] true 1;have sA:=s.keep fa (jb s.gd _ _ _);have aa:=s.lu;have hx:=s.xk;have F:A.dm=true:=q2.one;obtain⟨K3,w1,w2,J,w4,w5⟩:=nK q4 (sA.box.keep M (λ e=>by have:=s.n2 _ e.symm;exact KR _ this)) (off:=10) (new:=[A]) (by simp[hx]) (by simp[F])
 have Y:∀f,f2=O f->u<f:=λ f e=>by
  rcases Z with rfl|⟨f',h1,rfl⟩
  .exact s.n2 f e
  cases e;omega
 have S:∀f,fn=O f->f2≠O f/\fo≠O f:=λ f e=>⟨λ h=>by
  rcases Z with rfl|⟨f',h1,rfl⟩
  .exact(s.d1 f e).1 h
  cases h;have:=(s.on.lt s.gd) _ e;omega,(s.d1 f e).2⟩
 have P:∀f,f2=O f->fo≠O f:=λ f e h=>by
  rcases Z with rfl|⟨f',h1,rfl⟩
  .exact s.d2 f e h
  cases e;have:=(s.oo.lt s.gd) _ h;omega
 have ke:fn=X\/fn≠fe:=by
  cases fn;.exact .inl Q
  rename_i f;exact .inr λ h=>(s.d1 f Q).1 h.symm
 have ko:fo=X\/fo≠fe:=by
  cases fo;.exact .inl Q
  rename_i f;exact .inr λ h=>s.d2 f h.symm Q
 have ku:∀{f2:bA},(∀f,f2=O f->u<f)->f2=X\/f2≠O u:=λ {f2} h=>by grind
 have N:=s.hu;refine⟨A,K2,K3,f2,q1,F,w1,⟨s.g0,s.hu,s.im,s.Bc,w5,(sA.fr.jv s.g0 M λ f e=>fI N (OH (s.n2 f e))).jv s.g0 J λ f e=>by cases e;exact N,(agy hx)▸w2,(sA.on.keep M ke).keep J (ku s.n1),q2.keep J (ku Y),(sA.oo.keep M ko).keep J (ku s.n3),λ i y hy=>?_,s.n1,Y,s.n3,S,P⟩⟩
 have r0:mI.rel K.ah.get (λ g=>bz u fn fe fo g\/f2=O g) y (iF cs 2 i):=mI.ot (λ v r hv h=>by
  rcases h with h|h
  .exact h
  rcases Z with rfl|⟨f',h1,rfl⟩
  .exact .inr (.inr (.inl h))
  cases h;have:=(s.gd.wf v r hv).2;omega) (s.el i y hy)
 exact mI.sub (λ f h=>by
  rcases h with h|h|h|h
  .exact .inl (.inl h)
  .exact .inl (.inr (.inl h))
  .exact .inr h
  exact .inl (.inr (.inr (.inr h)))) (mI.keep J (λ f e=>.inl (.inl (by cases e;exact aZ _))) (mI.keep M (λ f e=>.inl (.inr (.inr (.inl e)))) (mI.nQ fa r0)))
def aBL{h:R}{r:Row}{y:cR}(D:H.ah.get v=O r)(A:r.sz=1)(K:n+1<=r.cells.length)(u:oM y (n+1)=O h)(J:h<=n+1):
 kU af H.ah.get 50 (.slice v 0 (n+1) X) X y=O (.slice v 0 h X):=by
 have e:Tryz.t3.size=1:=rfl;have b3:th h r.cells.length=true:=cD aa;have F:th 1 r.cells.length=true:=cD aa;simp only[kU,pv,mZ,jy,D,e,(show gr r.sz 1=true by rw[A];rfl),Ou,Nat.div_one,u,aD1,cD (kG _),b3,F,sK,Ew]
theorem cm.amR{x:U}(h:cm K 1 (l++[x]).length s (ints (l++[x])) fm):∃y,kU af K.ah.get 50 s X (O (ao (gu l.length)))=O y/\cm K 1 l.length y (ints l) fm:=by
 obtain⟨h1,⟨_,h2⟩|⟨v,r,rfl,o,u,D,A,rfl⟩⟩:=h;.simp at h2
 rw[kQ,UW]at D A⊢;refine⟨_,aBL o.row u aa Q aa,⟨EB,.inr ⟨v,r,Q,o,u,aa,?_,Q⟩⟩⟩;have F:=fP (List.take (l.length*1)) A;grind
theorem FSx.aEK{x:U}(s:FSx H0 I u D xs (ns++[x]) es out K sn se so fn fe fo cs):∃A J,kU af K.ah.get 50 sn X (O (ao (gu ns.length)))=O A/\A.dm=V/\write K u 9 [A]=O J/\FSx H0 I u D xs ns es out J A se so fn fe fo cs:=by
 obtain⟨A,q1,q2⟩:=s.on.amR;have hx:=s.xk;obtain⟨J,S,P,F,Z,N⟩:=nK s.gd s.box (off:=9) (new:=[A]) (by simp[hx]) (by simp[q2.one]);have M:∀{f2},(∀f,f2=O f->u<f)->f2=X\/f2≠O u:=λ {f2} h=>by grind
 exact⟨A,J,q1,q2.one,S,⟨s.g0,s.hu,s.im,s.Bc,N,s.fr.jv s.g0 F λ f e=>by cases e;exact s.hu,(aj0 hx)▸P,q2.keep F (M s.n1),s.oe.keep F (M s.n2),s.oo.keep F (M s.n3),λ i y Y=>(mI.keep F (λ f e=>.inl (by cases e;exact aZ _)) (s.el i y Y)),s.n1,s.n2,s.n3,s.d1,s.d2⟩⟩
theorem FSx.aBJ{x:U}(s:FSx H0 I u D xs ns (es++[x]) out K sn se so fn fe fo cs):∃A J,kU af K.ah.get 50 se X (O (ao (gu es.length)))=O A/\A.dm=V/\write K u 10 [A]=O J/\FSx H0 I u D xs ns es out J sn A so fn fe fo cs:=by
 obtain⟨A,q1,q2⟩:=s.oe.amR;have hx:=s.xk;obtain⟨J,S,P,F,Z,N⟩:=nK s.gd s.box (off:=10) (new:=[A]) (by simp[hx]) (by simp[q2.one]);have M:∀{f2},(∀f,f2=O f->u<f)->f2=X\/f2≠O u:=λ {f2} h=>by grind
 exact⟨A,J,q1,q2.one,S,⟨s.g0,s.hu,s.im,s.Bc,N,s.fr.jv s.g0 F λ f e=>by cases e;exact s.hu,(agy hx)▸P,s.on.keep F (M s.n1),q2.keep F (M s.n2),s.oo.keep F (M s.n3),λ i y Y=>(mI.keep F (λ f e=>.inl (by cases e;exact aZ _)) (s.el i y Y)),s.n1,s.n2,s.n3,s.d1,s.d2⟩⟩
end
section
variable{P:aA}{ng n:R}{aae:bg}
structure GI (P:aA) (ng:R) (bef:oh) (H0:aj) (rs bM:bG) (eO:mi) (H:aj) (S:jf):Prop where
 p:∀a∈S.bM,a∈bM
 r:∀r∈S.rs,r.1∈rs
 k:eO=false->(∀u r,H0.ah.get u=some r->H.ah.get u=some r)/\∀e∈S.es,∀u r,H0.ah.get u=some r->e.2.get u=some r
 v:∀r∈S.rs,dY P ng r.2.1 H0.ah.get r.2.2.1=some r.2.2.2
 s:∀r∈S.rs,∀e∈S.es,tb (bef e.1) r.1=true\/dY P ng r.2.1 e.2.get r.2.2.1=some r.2.2.2
def vp(P:aA)(ng:R)(aae:bg)(n:R)(H0:aj)(aag:dM)(bef:oh)(l:dM)(i:R)(rs bM:bG)(eO:mi)(T:aM)(H:aj)(F:ID):Prop:=∀S,GI P ng bef H0 rs bM eO H S->∃u y A,kx P ng aae n aag bef l i S T H=O (u,y,A)/\(∀r∈u.rs,dY P ng r.2.1 H0.ah.get r.2.2.1=O r.2.2.2)/\(∀r∈u.rs,∀e∈u.es,tb (bef e.1) r.1=V\/dY P ng r.2.1 e.2.get r.2.2.1=O r.2.2.2)/\F y A
variable{H0 H:aj}{aag l:dM}{bef:oh}{i:R}{rs bM:bG}{eO:mi}{T:aM}{F:ID}{o:Oper}{r:xe}
def R5(h:F T H):vp P ng aae n H0 aag bef [] i rs bM eO T H F:=λ S g=>⟨S,T,H,Q,g.v,g.s,h⟩
def avK(y:dK o.op=0)(u:bR P ng aae T H o.op=O r):r.2=H:=by simp[bR,y]at u;unfold iG at u;split at u<;>cases u;rfl
def nY(y:dK o.op=0)(A:cn aag T o=V)(u:bR P ng aae T H o.op=O r)(h:vp P ng aae n H0 aag bef l (i+1) rs bM eO (dZ n T o.dst r.1) r.2 F):vp P ng aae n H0 aag bef (o::l) i rs bM eO T H F:=λ S g=>by rw[BM,A,u];simp only[acO y];refine h S ?_;rw[avK y u];exact g
theorem xz(M:dK o.op=1)(N:cn aag T o=V)(J:bR P ng aae T H0 o.op=O r)(h:vp P ng aae n H0 aag bef l (i+1) (i::rs) bM W (dZ n T o.dst r.1) H F):vp P ng aae n H0 aag bef (o::l) i rs bM W T H F:=λ S g=>by
 obtain⟨D,A⟩:=g.k Q;have u:dY P ng T H0.ah.get o.op=O r.1:=by rw[bR]at J;unfold iG at J;grind
 have y:bR P ng aae T H o.op=O (r.1,H):=by rw[bR,M,BF D u];rfl
 rw[BM,N,y];simp only[aci M];refine h _ ⟨g.p,λ x hx=>?_,λ _=>⟨D,A⟩,λ x hx=>?_,λ x hx e K=>?_⟩
 .rcases cg.1 (hx)with rfl|hx
  .exact dJ ..
  exact cV _ (g.r x hx)
 .rcases cg.1 (hx)with rfl|hx
  .exact u
  exact g.v x hx
 rcases cg.1 (hx)with rfl|hx
 .exact .inr (BF (A e K) u)
 exact g.s x hx e K
def aeJ(K:dK o.op=2)(A:cn aag T o=V)(D:bR P ng aae T H o.op=O r)(J:∀u q,H.ah.get u=O q->r.2.ah.get u=O q)(h:vp P ng aae n H0 aag bef l (i+1) rs (i::bM) eO (dZ n T o.dst r.1) r.2 F):vp P ng aae n H0 aag bef (o::l) i rs bM eO T H F:=λ S g=>by
 rw[BM,A,D];simp only;rw[show jt _ i T _ S r=O _ by unfold jt;rw[K];rfl];refine h _ ⟨λ a y=>?_,g.r,λ e=>⟨λ u q hu=>J u q ((g.k e).1 u q hu),(g.k e).2⟩,g.v,g.s⟩;rcases cg.1 (y)with rfl|y
 .exact dJ ..
 exact cV _ (g.p a y)
theorem Hw(Y:dK o.op=3)(K:cn aag T o=V)(N:bR P ng aae T H o.op=O r)(D:∀u q,H.ah.get u=O q->r.2.ah.get u=O q)(M:qw (bef i) bM=V)(h:vp P ng aae n H0 aag bef l (i+1) rs (i::bM) W (dZ n T o.dst r.1) r.2 F):vp P ng aae n H0 aag bef (o::l) i rs bM W T H F:=λ S g=>by
 obtain⟨A,J⟩:=g.k Q;rw[BM,K,N];simp only;rw[Uh Y (tW.2 λ a y=>tW.1 M a (g.p a y))];refine h _ ⟨λ a y=>?_,g.r,λ _=>⟨λ u q hu=>D u q (A u q hu),λ e he=>?_⟩,g.v,λ x hx e he=>?_⟩
 .rcases cg.1 (y)with rfl|y
  .exact dJ ..
  exact cV _ (g.p a y)
 .rcases cg.1 (he)with rfl|he
  .grind
  exact J e he
 rcases cg.1 (he)with rfl|he
 .exact .inr (BF (λ u q hu=>D u q (A u q hu)) (g.v x hx))
 exact g.s x hx e he
def Qc(K:dK o.op=3)(y:cn aag T o=V)(J:bR P ng aae T H o.op=O r)(D:qw (bef i) bM=V)(A:qw (bef i) rs=V)(h:vp P ng aae n H0 aag bef l (i+1) rs (i::bM) V (dZ n T o.dst r.1) r.2 F):vp P ng aae n H0 aag bef (o::l) i rs bM eO T H F:=λ S g=>by
 rw[BM,y,J];simp only;rw[Uh K (tW.2 λ a u=>tW.1 D a (g.p a u))];refine h _ ⟨λ a u=>?_,g.r,λ e=>bk,g.v,λ x hx e he=>?_⟩
 .rcases cg.1 (u)with rfl|u
  .exact dJ ..
  exact cV _ (g.p a u)
 rcases cg.1 (he)with rfl|he
 .exact .inl (tW.1 A _ (g.r x hx))
 exact g.s x hx e he
theorem V6{u:kH}{j:R}{T:aM}{o:Op}{v:au}:∀{es:vM} {up:bA},dY P ng T u.get o=O v->(∀e∈es,tb (bef e.1) j=V\/dY P ng T e.2.get o=O v)->uE P ng bef u j T o v es up=V
 |[],up,h0,_=>by show((match up with|O e=>tb _ e|X=>W)||mX P ng T _ o v)=V;simp[mX,h0,JK]
 |e::es,up,h0,h=>by show(((match up with|O y=>tb _ y|X=>W)||tb _ j||mX P ng T _ o v)&&uE P ng bef u j T o v es _)=V;rw[V6 h0 λ y A=>h y (cV _ A)];grind[mX,JK]
theorem adz{id:R}{aag:dV}{T:aM}{H:aj}{Qqq:nv}(h:vp P ng aae n H aag.toList (eA aag) aag.toList 0 [] [] W T H λ u D=>(∀t,ee aag.toList t=true->ai u t=ai T t)->Qqq .normal u D):bB P ng aae n (.region id aag true) T H Qqq:=by
 obtain⟨S,u,D,h1,h2,J,F⟩:=h ⟨[],[],[]⟩ ⟨λ a A=>bk,λ a A=>bk,λ _=>⟨λ _ _ e=>e,λ e M=>bk⟩,λ a A=>bk,λ a A=>bk⟩
 have y:kK P ng aae n aag T H true=O (u,D):=by
  refine Mk ?_;rw[h1,pQ]
  have:∀rs,(∀r∈rs,dY P ng r.2.1 H.ah.get r.2.2.1=O r.2.2.2)->(∀r∈rs,∀e∈S.es,tb (eA aag e.1) r.1=true\/dY P ng r.2.1 e.2.get r.2.2.1=O r.2.2.2)->wK P ng (eA aag) H.ah S.es rs=true:=by
   intro rs;induction rs with
   |nil=>intro _ _;rfl
   |cons r rs K=>grind[MH,V6]
  rw[this _ h2 J]
 exact lR y (F (DY (aIM h1)))
end
section
variable{ng:R}{I:Im}{H K:aj}{G:Gh}{H0:aj}{u:R}{D:FV}{xs:aF}{ns es:aK}{out:jO}{sn se so:au}{fn fe fo:bA}{cs:aF}
def Vh:Tryz.prog.info? 64=O Tryz.t64:=aH
def WW:Tryz.prog.info? 195=O Tryz.t195:=aH
def apa:fW af 64=O (.agg [.aq,.aq]):=aH
def aA9:oW af 195 1 (O [(0,.agg [a,b])])=O ([a,b],2,O 1):=aH
def aez{c:au}(h:aQ g v off 1=O [c]):cr af g 195 (.ptr v off)=O c:=by rw[cr,h];rfl
def aul{H:aj}(h:a.dm=true):dD af H 195 (.ptr v off) a=write H v off [a]:=by have h2:gr [a].length Tryz.t195.size=true:=rfl;simp only[dD,WW,zG h,h2]
def OS{H:aj}(h:a.dm=true):dD af H 50 (.ptr v off) a=write H v off [a]:=by have h2:gr [a].length Tryz.t50.size=true:=rfl;simp only[dD,FL,zG h,h2]
def ar1(D:a.dm=V)(A:b.dm=V):mc af 64 (O [(0,a),(1,b)])=O (.agg [a,b]):=by have y:Tryz.t50.size=1:=rfl;have u:(au.agg _).cells=[.aq,.aq]:=rfl;simp+decide [mc,apa,fill,Dc,FL,zG D,zG A,u,eV,KO,OD,y,ny,Oz,apT,OB,rO,tP,jM,kS,gU,kR,mG,AX]
def aCf{H:aj}{x:au}{new:aF}(A:lenOf x=O n)(D:er H.ah.get 2 n x=O new):iC af H [195,195] [s,x]=gM H 2 Tryz.t64.bytes s n new:=by obtain⟨z,y,u⟩:∃z,fW _ 64=O z/\z.cells.length=2:=⟨_,apa,Q⟩;have h1:Tryz.t64.size=2:=rfl;simp+decide [iC,Vh,y,u,h1,A,D]
theorem cm.aeH{S:vH}(h:cm K 1 l.length s (ints l) fm)(u:∀f,fm=O f->¬S f):(m9 wq).rel K.ah.get S l [s]:=⟨s,ints l,Q,h.Pk u,λ i x hx=>by show iF _ 1 i=[ao x];grind[iF,acR]⟩
theorem FSx.push(s:FSx H0 I u D xs ns es out K sn se so fn fe fo cs)(h1:ns.length<=1000)(h2:es.length<=1000)(h3:out.length<=100000):
 ∃A Y F J M K4 K5 f2,bZ ng 144 [sn] K=O (A,Y)/\Fr X K Y/\A.dm=true/\bZ ng 144 [se] Y=O (F,J)/\Fr X Y J/\F.dm=true/\Good J/\iC af (alloc J [A,F] true 2) [195,195] [so,.slice J.ae 0 1 X]=O (M,K4)/\M.dm=true/\write K4 u 11 [M]=O K5/\FSx H0 I u D xs ns es (out++[(ns,es)]) K5 sn se M fn fe f2 (cs++[A,F]):=by
 obtain⟨⟨A,Y⟩,a1,fa,a2,a3,a4,a5⟩:=ZB (ng:=ng) 0 K.ah.get K ns sn s.gd (bO.refl _) s.on.Qk h1;have sA:=s.keep a4 a5;obtain⟨⟨F,J⟩,b1,fb,b2,b3,b4,b5⟩:=ZB (ng:=ng) 0 Y.ah.get Y es se a5 (bO.refl _) sA.oe.Qk h2;have sB:=sA.keep b4 b5;have fl:=iv b5 [A,F] true 2;have sC:=sB.keep fl (jb b5 _ _ _);have aN:=(a2.nQ b4).nQ fl;have aE:=b2.nQ fl;have oN:=aN.one;have oE:=aE.one;have al:er _ 2 1 (.slice J.ae 0 1 X)=O [A,F]:=ab0 Q;obtain⟨M,K4,f2,q1,q2,q3,q4,q5⟩:=yp (k:=1) (bytes:=Tryz.t64.bytes) (new:=[A,F]) sC.gd cB sC.oo Q (by simp[oN,oE]) (by show(out.length+1)*48<=1099511627776;omega) mE;have S:=aCf (s:=so) Q al;rw[q1]at S;have ap:=s.lu;have hx:=s.xk;have bK:=sC.box.keep q3 (λ e=>by have:=s.n3 _ e.symm;exact KR _ this);have N:M.dm=true:=q2.one;obtain⟨K5,w1,w2,Z,w4,w5⟩:=nK q4 bK (off:=11) (new:=[M]) (by simp[hx]) (by simp[N]);have aq:=fI (fI a4.ae b4.ae) fl.ae
 have am:∀f,f2=O f->u<f:=λ f e=>by
  rcases q5 with rfl|⟨f',h1,rfl⟩
  .exact s.n3 f e
  cases e;omega
 have ai:=s.on.lt s.gd;have P:=s.oe.lt s.gd;have ag:=s.oo.lt s.gd
 have ad:∀f,fn=O f->fe≠O f/\f2≠O f:=λ f e=>⟨(s.d1 f e).1,λ h=>by
  rcases q5 with rfl|⟨f',h1,rfl⟩
  .exact(s.d1 f e).2 h
  cases h;have:=ai _ e;omega⟩
 have ac:∀f,fe=O f->f2≠O f:=λ f e h=>by
  rcases q5 with rfl|⟨f',h1,rfl⟩
  .exact s.d2 f e h
  cases h;have:=P _ e;omega
 have ke:fe=X\/fe≠fo:=by
  cases fe;.exact .inl Q
  rename_i f;exact .inr λ h=>s.d2 f Q h.symm
 have kn:fn=X\/fn≠fo:=by
  cases fn;.exact .inl Q
  rename_i f;exact .inr λ h=>(s.d1 f Q).2 h.symm
 have ku:∀{f2:bA},(∀f,f2=O f->u<f)->f2=X\/f2≠O u:=λ {f2} h=>by grind
 have ab:=s.hu;refine⟨A,Y,F,J,M,K4,K5,f2,a1,a4,oN,b1,b4,oE,b5,S,N,w1,⟨s.g0,s.hu,s.im,s.Bc,w5,(sC.fr.jv s.g0 q3 λ f e=>fI ab (OH (s.n3 f e))).jv s.g0 Z λ f e=>by cases e;exact ab,(awe hx)▸w2,(sC.on.keep q3 kn).keep Z (ku s.n1),(sC.oe.keep q3 ke).keep Z (ku s.n2),?_,λ i y hy=>?_,s.n1,s.n2,am,ad,ac⟩⟩;.rw[kQ,UW];exact q2.keep Z (ku am)
 .have fin:∀{y} {c:aF},mI.rel _ (bz u fn fe fo) y c->mI.rel K5.ah.get (bz u fn fe f2) y c:=λ {y c} r=>by
   have r0:mI.rel (alloc J [A,F] true 2).ah.get (λ g=>bz u fn fe fo g\/f2=O g) y c:=mI.ot (λ v r hv h=>by
    rcases h with h|h
    .exact h
    rcases q5 with rfl|⟨f',h1,rfl⟩
    .exact .inr (.inr (.inr h))
    cases h;have:=(sC.gd.wf v r hv).2;omega) r
   have r1:=mI.keep q3 (λ f e=>.inl (.inr (.inr (.inr e)))) r0;have r2:=mI.keep Z (λ f e=>.inl (.inl (by cases e;exact aZ _))) r1
   exact mI.sub (λ f h=>by
    rcases h with h|h|h|h
    .exact .inl (.inl h)
    .exact .inl (.inr (.inl h))
    .exact .inl (.inr (.inr (.inl h)))
    exact .inr h) r2
  have ao:=s.oo.1;by_cases hi:i<out.length;.rw[AV hi]at hy;rw[aio aa];exact fin (sC.el i y hy)
  have an:i=out.length:=by grind[aa3]
  subst an;simp at hy;subst hy;rw[anj ao Q]
  have hS:∀{fm:bA},lq K fm->∀f,fm=O f->¬bz u fn fe fo f:=λ {fm} hf f e hb=>by
   have:=hf f e;rcases hb with h|h|h|h
   .omega
   .have:=ai _ h;omega
   .have:=P _ h;omega
   have:=ag _ h;omega
  exact fin ⟨[A],[F],Q,aN.aeH (hS a3),aE.aeH (hS λ f e=>fI a4.ae (b3 f e))⟩
end
section
variable{D:FV}{b:mi}{q:U}
variable{gl:bH}{base:fi}
def CV:jQ:=[[],[0],[0,1],[0,1,2],[0,1,2],[0,1,2,3,4],[0,1,2,3,4,5],[0,1,2,3,4,5,6],[0,1,2,3,4,5,6,7],[0,1,2,3,4,5,6,7,8],[0,1,2,3,4,5,6,7,8,9],[0,1,2,3,4,5,6,7,8,9,10],[0,1,2,3,4,5,6,7],[0,1,2,3,4,5,6,7,12],[0,1,2,3,4,5,6,7,12,13],[0,1,2,3,4,5,6,7,12,13,14],[0,1,2,3,4,5,6,7,12,13,14,15],[0,1,2,3,4,5,6,7],[0,1,2,3,4,5,6,7,12,13,14,15,16,17],[0,1,2,3,4,5,6,7,12,13,14,15,16,17,18],[0,1,2,3,4,5,6,7,8,9,10,11,12,13,14,15,16,17,18,19],[0,1,2,3,4,5,6,7,8,9,10,11,12,13,14,15,16,17,18,19,20],[0,1,2,3,4,5,6,7],[0,1,2,3,4,5,6,7,8,9,10,11,12,13,14,15,16,17,18,19,20,21,22],[0,1,2,3,4,5,6,7,8,9,10,11,12,13,14,15,16,17,18,19,20,21,22,23],[0,1,2,3,4,5,6,7,8,9,10,11,12,13,14,15,16,17,18,19,20,21,22,23,24],[0,1,2,3,4,5,6,7,8,9,10,11,12,13,14,15,16,17,18,19,20,21,22,23,24,25],[0,1,2,3,4,5,6,7,8,9,10,11,12,13,14,15,16,17,18,19,20,21,22,23,24,25,26],[0,1,2,3,4,5,6,7,8,9,10,11,12,13,14,15,16,17,18,19,20,21,22,23,24,25,26,27],[0,1,2,3,4,5,6,7,8,9,10,11,12,13,14,15,16,17,18,19,20,21,22,23,24,25,26,27,28],[0,1,2,3,4,5,6,7,8,9,10,11,12,13,14,15,16,17,18,19,20,21,22,23,24,25,26,27,28,29],[0,1,2,3,4,5,6,7,8,9,10,11,12,13,14,15,16,17,18,19,20,21,22,23,24,25,26,27,28,29,30],[0,1,2,3,4,5,6,7,8,9,10,11,12,13,14,15,16,17,18,19,20,21,22,23,24,25,26,27,28,29,30,31],[0,1,2,3,4,5,6,7,8,9,10,11,12,13,14,15,16,17,18,19,20,21,22,23,24,25,26,27,28,29,30,31,32],[0,1,2,3,4,5,6,7,8,9,10,11,12,13,14,15,16,17,18,19,20,21,22,23,24,25,26,27,28,29,30,31,32,33],[0,1,2,3,4,5,6,7,8,9,10,11,12,13,14,15,16,17,18,19,20,21,22,23,24,25,26,27,28,29,30,31,32,33,34],[0,1,2,3,4,5,6,7,8,9,10,11,12,13,14,15,16,17,18,19,20,21,22,23,24,25,26,27,28,29,30,31,32,33,34,35],[0,1,2,3,4,5,6,7,8,9,10,11,12,13,14,15,16,17,18,19,20,21,22,23,24,25,26,27,28,29,30,31,32],[0,1,2,3,4,5,6,7,8,9,10,11,12,13,14,15,16,17,18,19,20,21,22,23,24,25,26,27,28,29,30,31,32,33,34,35,36,37],[0,1,2,3,4,5,6,7,8,9,10,11,12,13,14,15,16,17,18,19,20,21,22,23,24,25,26,27,28,29,30,31,32,33,34,35,36,37,38],[0,1,2,3,4,5,6,7,8,9,10,11,12,13,14,15,16,17,18,19,20,21,22,23,24,25,26,27,28,29,30,31,32,33,34,35,36,37,38,39]]
def O6:mh:=⟨[(7,[5],[]),(8,[115],[]),(10,[127],[]),(19,[185],[])],[],[],[]⟩
def Bk(D:FV)(ns:aK)(i:R):tD:=
 match D.qN[ns.length]?,D.hN[i]?,D.pN[ns.length]?with
 |O q,O h,O p=>if q>=0/\q≠(i:U)then O V else
  match p,h with
  |.ofNat p,.ofNat h=>(match D.bl[p]?with
   |O row=>(match row[h]?with
    |O V=>O (D.inj&&ns.any λ y=>decide ((i:U)=y))
    |O W=>O V
    |X=>X)
   |X=>X)
  |_,_=>X
 |_,_,_=>X
def Mp:ly af 346=true:=aH
def au9:ly af 347=true:=aH
def aaM:ly af 145=true:=aH
abbrev Df:aG:=(ez [] [])
def ev7(y:C5 base){m:R}(hm:m=ns.length)(u:D.qN[m]? =O q):
 cO af gl (VW gl base) 208 (.bh ajg (O ([5],[]))) [(0,.rp (D.c ns es o) 0),(2,eI (m:U))] Df=O (.normal,[(5,eI q)],Df):=by
 simp+decide [VB,lk,bU,FV.c,ajg,iA Mp,aln y u]
set_option maxRecDepth 100000 in
def ev8{h p:U}(hl:ns.length<=1000000)(Z:D.qN[ns.length]? =O q)(hh:D.hN[i]? =O h)(hp:D.pN[ns.length]? =O p)(F:Bk D ns i=O b):
 cO af gl (VW gl base) 208 (.xQ Ep CV (O ([115],[]))) [(0,.rp (D.c ns es o) 0),(2,eI (ns.length:U)),(3,eI (i:U)),(4,eI h),(5,eI q)] Df=O (.normal,[(115,eB b)],Df):=by
 unfold Bk at F;simp only[Z,hh,hp]at F;split at F;.rename_i h1;cases F;have e1:(q>=0)=True:=mU h1.1;have e2:(q=(i:U))=False:=tQ h1.2;simp+decide only[VB,lk,bU,↓ky,eF,et,jx,lK,lG,lI,lL,lF,eR,jM,kS,kR,gU,lM,br,FV.c,Ep,CV,e1,e2]
 .rename_i h1;split at F
  .rename_i N Y;split at F
   .rename_i row P;have A:(D.pN.map λ n=>[eI n])[ns.length]? =O [eI (N:U)]:=bP;have y:(D.bl.map λ r=>[xS r])[N]? =O [xS row]:=bP;split at F
    .rename_i hb;cases F;have u:(row.map λ b=>[eB b])[Y]? =O [eB V]:=bP;have K:=EX (gl:=gl) (base:=base) (l:=ns) (x:=(i:U)) (S:=[[]]) hl;cases M:D.inj
     .by_cases h0:q>=0
      .have J:q=(i:U):=aec.1 λ h=>h1 ⟨h0,h⟩
       subst J;simp+decide only[VB,lk,bU,↓ky,eF,et,jx,lK,lG,lI,lL,lF,eR,jM,kS,kR,gU,lM,br,Cw,FV.c,Ep,CV,jR h0,fc A,fc y,fc u,M,ad0]
      simp+decide only[VB,lk,bU,↓ky,eF,et,jx,lK,lG,lI,lL,lF,eR,jM,kS,kR,gU,lM,br,Cw,FV.c,Ep,CV,my h0,fc A,fc y,fc u,M,ad0]
     by_cases h0:q>=0
     .have J:q=(i:U):=aec.1 λ h=>h1 ⟨h0,h⟩
      subst J;simp+decide only[VB,lk,bU,↓ky,eF,et,jx,lK,lG,lI,lL,lF,eR,jM,kS,kR,gU,lM,br,Cw,FV.c,Ep,CV,jR h0,fc A,fc y,fc u,M,Ex,iA aaM,K]
     simp+decide only[VB,lk,bU,↓ky,eF,et,jx,lK,lG,lI,lL,lF,eR,jM,kS,kR,gU,lM,br,Cw,FV.c,Ep,CV,my h0,fc A,fc y,fc u,M,Ex,iA aaM,K]
    .rename_i hb;cases F;have u:(row.map λ b=>[eB b])[Y]? =O [eB W]:=bP;by_cases h0:q>=0
     .have J:q=(i:U):=aec.1 λ h=>h1 ⟨h0,h⟩
      subst J;simp+decide only[VB,lk,bU,↓ky,eF,et,jx,lK,lG,lI,lL,lF,eR,jM,kS,kR,gU,lM,br,Cw,FV.c,Ep,CV,jR h0,fc A,fc y,fc u]
     simp+decide only[VB,lk,bU,↓ky,eF,et,jx,lK,lG,lI,lL,lF,eR,jM,kS,kR,gU,lM,br,Cw,FV.c,Ep,CV,my h0,fc A,fc y,fc u]
    cases F
   cases F
  cases F
def aqd(F:C5 base)(A:D.hE.length<=1000000)(y:D.pE.length<=1000000)(u:ns.length<=1000000)(h:zo D ns D.pE.length 0=O b):
 cO af gl (VW gl base) 208 (.bh amh (O ([127],[]))) [(0,.rp (D.c ns es o) 0)] Df=O (.normal,[(127,eB b)],Df):=by
 simp+decide [VB,lk,amh,iA au9,Jd,Hs,axK F A y u h]
def EA(D:FV)(ns es:aK)(i:R):tD:=
 match Ae D ns es.length i with
 |O V=>O (D.inj&&es.any λ y=>decide ((i:U)=y))
 |O W=>O V
 |X=>X
def aud(F:C5 base){es:aK}{o:ak}(J:es.length<=1000000)(u:EA D ns es i=O b):
 cO af gl (VW gl base) 208 (.bh Sb (O ([185],[]))) [(0,.rp (D.c ns es o) 0),(6,eI (es.length:U)),(7,eI (i:U))] Df=O (.normal,[(185,eB b)],Df):=by
 unfold EA at u;split at u
 .rename_i A;cases u;have h:=UZ (gl:=gl) (es:=es) (o:=o) F A;simp only[FV.c]at h;cases y:D.inj;.rw[y]at h;simp+decide only[VB,lk,bU,↓ky,eF,et,FV.c,Sb,iA Om,Jd,Hs,h,y,ad0]
  rw[y]at h;simp+decide only[VB,lk,bU,↓ky,eF,et,FV.c,Sb,iA Om,Jd,Hs,h,y,Ex,iA aaM,EX (gl:=gl) (base:=base) (l:=es) J]
 .rename_i A;cases u;have h:=UZ (gl:=gl) (es:=es) (o:=o) F A;simp only[FV.c]at h;simp+decide only[VB,lk,bU,↓ky,eF,et,FV.c,Sb,iA Om,Jd,Hs,h]
 .cases u
end
section
variable{t:bj}
variable{ng:R}{I:Im}{H K:aj}{G:Gh}{H0:aj}{u:R}{D:FV}{xs:aF}{ns es:aK}{out:jO}
def yz(st:R->jO->gw jO):R->R->jO->gw jO
 |0,_,o=>O o
 |k+1,i,o=>match st i o with|O u=>yz st k (i+1) u|X=>X
def C6(D:FV)(u:aK->aK->jO->gw jO)(ns es:aK)(i:R)(o:jO):gw jO:=
 match Bk D ns i with
 |O V=>O o
 |O W=>(match zo D (ns++[(i:U)]) D.pE.length 0 with|O V=>u (ns++[(i:U)]) es o|O W=>O o|X=>X)
 |X=>X
def C0(D:FV)(u:aK->aK->jO->gw jO)(ns es:aK)(i:R)(o:jO):gw jO:=
 match EA D ns es i with
 |O V=>O o
 |O W=>u ns (es++[(i:U)]) o
 |X=>X
def vP(D:FV):R->aK->aK->jO->gw jO
 |0,_,_,_=>X
 |f+1,ns,es,out=>if(out.length:U)=D.lim then O out
  else if ns.length<D.pN.length then yz (C6 D (vP D f) ns es) D.hN.length 0 out
  else if es.length<D.pE.length then yz (C0 D (vP D f) ns es) D.hE.length 0 out
  else if out.length<=100000 then O (out++[(ns,es)])else X
def Dt(H0:aj)(I:Im)(u:R)(D:FV)(xs:aF)(ns es:aK)(out:jO)(K:aj):Prop:=∃A F y fn M J N,FSx H0 I u D xs ns es out K A F y fn M J N
structure DOk (D:FV):Prop where
 a:D.pN.length<=1000
 b:D.pE.length<=1000
 c:D.hN.length<=1000
 d:D.hE.length<=1000
def akA{o:R}:fO af 365 (.ptr v o) 0=O (.ptr v (o+0))/\fO af 365 (.ptr v o) 1=O (.ptr v (o+2))/\fO af 365 (.ptr v o) 3=O (.ptr v (o+5))/\fO af 365 (.ptr v o) 5=O (.ptr v (o+8))/\fO af 365 (.ptr v o) 6=O (.ptr v (o+9))/\fO af 365 (.ptr v o) 7=O (.ptr v (o+10))/\fO af 365 (.ptr v o) 8=O (.ptr v (o+11)):=by
 have u:Tryz.prog.info? 53=O Tryz.t53:=aH;have h0:gr Tryz.t53.size 0=false:=rfl;have h1:gr Tryz.t64.size 0=false:=rfl;have h2:gr Tryz.t3.size 0=false:=rfl;have A:gr Tryz.t50.size 0=false:=rfl;have y:gr Tryz.t195.size 0=false:=rfl;refine⟨?_,?_,?_,?_,?_,?_,?_⟩;.rfl
 .rfl
 .rfl
 .rfl
 .rfl
 .rfl
 simp only[fO,asc,WW,y];rfl
def ab2{aae:bg}{l:aF}{H:aj}:eL af aae 300 l H=aae 300 l H:=rfl
def CP{a b:R}:cY af .lss t (aW a) (aW b)=O (.bool (decide (a<b))):=by rw[Uu];simp
def M8(h:i<=100000):cY af .add t (aW i) (ao 1)=O (aW (i+1)):=uZ aa
def avq{c:au}(h:aQ g v off 1=O [c]):cr af g 3 (.ptr v off)=O c:=vA h
def abx{P:aA}{a b:Code}{T:aM}{H:aj}{Qqq:nv}(M:ID)(h1:bB P ng aae n a T H λ e u y=>e=.normal/\M u y)(h2:∀u y,M u y->bB P ng aae n b u y Qqq):bB P ng aae n (.seq a b) T H Qqq:=by refine aB ?_;obtain⟨m,e,u,y,q1,rfl,q2⟩:=h1;exact⟨m,_,u,y,q1,h2 u y q2⟩
theorem arz{ns:aK}{b:mi}(h:Bk D ns i=O b):∃q u p,D.qN[ns.length]? =O q/\D.hN[i]? =O u/\D.pN[ns.length]? =O p:=by grind[Bk]
def Fo{K:aj}{n:U}:aJ ρ0 K.ah.get (eI n) (ao n):=by simp[aJ,jP]
theorem an1(hD:DOk D):∀(f:R) (K:aj) (ns es:aK) (out out':jO),Dt H0 I u D xs ns es out K->ns.length<=D.pN.length->es.length<=D.pE.length->vP D f ns es out=O out'->∃K',bZ ng 300 [.ptr u 0] K=O (.tuple [],K')/\Dt H0 I u D xs ns es out' K'
 |0,_,_,_,_,_,_,_,_,h=>by cases h
 |f+1,K,ns,es,out,out',hF,hn,he,h=>by
  have ih:=λ K ns es out out' a b c d=>an1 hD f K ns es out out' a b c d
  suffices hW:∃r,fp af ng (bZ ng) 300 [.ptr u 0] K r/\r.1=.tuple []/\Dt H0 I u D xs ns es out' r.2 by obtain⟨⟨v,K'⟩,h1,h2,h3⟩:=hW;simp only at h2 h3;subst h2;exact⟨K',nW Q h1,h3⟩
  obtain⟨g0,g2,g5,g8,g9,al,az⟩:=akA (v:=u) (o:=0);obtain⟨sn,se,so,fn,fe,fo,cs,s⟩:=hF;obtain⟨x0,_,rfl,r0,x1,_,rfl,r1,x2,_,rfl,r2,x3,_,rfl,r3,x4,_,rfl,r4,x5,_,rfl,r5,x6,_,rfl,r6,x7,_,rfl,r7,x8,_,rfl,r8,rfl⟩:∃x0 t0,xs=x0::t0/\RP I (aO D.pN) x0/\∃x1 t1,t0=x1::t1/\RP I (gS D.pE) x1/\∃x2 t2,t1=x2::t2/\RP I (aO D.hN) x2/\∃x3 t3,t2=x3::t3/\RP I (gS D.hE) x3/\∃x4 t4,t3=x4::t4/\RP I (.sl (D.bl.map λ r=>[xS r]) X) x4/\∃x5 t5,t4=x5::t5/\RP I (aO D.qN) x5/\∃x6 t6,t5=x6::t6/\RP I (aO D.qE) x6/\∃x7 t7,t6=x7::t7/\RP I (eB D.inj) x7/\∃x8 t8,t7=x8::t8/\RP I (eI D.lim) x8/\t8=[]:=s.Bc;obtain⟨rfl,_⟩:x8=ao D.lim/\True:=by simp only[RP]at r8;exact⟨r8.1,trivial⟩
  have ax:=aez s.als;have l9:=BP s.YJ;have ac:=BP s.XC;have l8:=avq (s.Nd (i:=8) Q);have l0:=BP (s.Nd (i:=0) Q);have l1:=PW (s.Nd (i:=1) Q);have aI:dh af 195 so=O (ao (gu out.length)):=s.oo.read.dh Tryz.underlying195;have n9:dh af 50 sn=O (ao (gu ns.length)):=s.on.read.dh pv;have av:dh af 50 se=O (ao (gu es.length)):=s.oe.read.dh pv;have n0:dh af 50 x0=O (ao (gu D.pN.length)):=by grind[tB,pv,HY]
  have n1:dh af 51 x1=O (ao (gu D.pE.length)):=by grind[tB,Ed.c,aeR,HY]
  simp only[vP]at h;refine lp Tryz.func300 Q ?_;show bB af ng (bZ ng) 208 _ _ _ _;have a0:ai (eH [.ptr u 0] 0 .nil) 0=.ptr u 0:=rfl;refine gR (aB (WDc (λ T=>ai T 28=.bool (decide ((out.length:U)=D.lim))) Q (AQ a0 g8 az l8 ax aI) ?_));intro T1 aG k1;have A:=aL k1 a0;refine eX (by rw[fQ,aG]) (λ hc=>?_) (λ hc=>?_);.rw[aY (jL hc)]at h;cases h;exact fZ ⟨pO,[],Q,Q,_,_,_,_,_,_,_,s⟩
  rw[aR (tM hc)]at h;refine aB (WDc (λ T=>ai T 39=.bool (decide (ns.length<D.pN.length))) Q (mN A g0 g9 @Wd l0 l9 n0 (iy n9 @CP)) ?_);intro T2 aE k2;have A:=aL k2 A;refine eX (by rw[fQ,aE]) (λ hc=>?_) (λ hc=>?_)
  .rw[aY (jL hc)]at h;have l2:=BP (s.Nd (i:=2) Q);have n2:dh af 50 x2=O (ao (gu D.hN.length)):=by grind[tB,pv,HY]
   refine aB (aS (H':=K) (λ T=>ai T 2=ao (gu ns.length)) (nP A g9 l9 n9) ?_);intro T3 t2 k3;have A:=aL k3 A;refine aB (aS (H':=K) (λ T=>ai T 61=x2/\ai T 62=ao (gu D.hN.length)/\ai T 63=aW 0) (xK A g2 @Wd l2 n2) ?_)
   rintro T4 ⟨aQ,aN,ar⟩ k4
   obtain⟨A,t2⟩:=jA k4 A t2;refine gR (pq (λ mm T K=>∃(i:R) (o:jO),mm+i=D.hN.length/\Dt H0 I u D [x0,x1,x2,x3,x4,x5,x6,x7,ao D.lim] ns es o K/\yz (C6 D (vP D f) ns es) mm i o=O out'/\ai T 0=.ptr u 0/\ai T 2=ao (gu ns.length)/\ai T 61=x2/\ai T 62=ao (gu D.hN.length)/\ai T 63=aW i) ?_ D.hN.length _ _ ⟨0,out,aa,⟨_,_,_,_,_,_,_,s⟩,h,A,t2,aQ,aN,ar⟩);clear s ax l9 ac l8 l0 l1 aI n9 av n0 n1 k1 k2 k3 k4 aG aE A t2 aQ aN ar l2
   rintro mm T K ⟨i,o,hi,hF,ag,A,b2,N,M,F⟩
   refine aB (aS (H':=K) (λ T=>ai T 64=.bool (decide (i<D.hN.length))) (jG M F @CP) ?_);intro T5 a8 k5;obtain⟨A,b2,N,M,F⟩:=nR k5 A b2 N M F;refine aB (eX (by rw[fQ,a8]) (λ ap=>?_) (λ aq=>?_))
   .have ap:=jL ap;obtain⟨m',rfl⟩:∃m',mm=m'+1:=⟨mm- 1,aa⟩;simp only[yz]at ag;obtain⟨o',S,ag⟩:∃o',C6 D (vP D f) ns es i o=O o'/\yz (C6 D (vP D f) ns es) m' (i+1) o'=O out':=by grind
    refine fZ (abx (λ T K=>Dt H0 I u D [x0,x1,x2,x3,x4,x5,x6,x7,ao D.lim] ns es o' K/\ai T 0=.ptr u 0/\ai T 2=ao (gu ns.length)/\ai T 61=x2/\ai T 62=ao (gu D.hN.length)/\ai T 63=aW i) (gR ?_) ?_)
    .obtain⟨sn,se,so,fn,fe,fo,cs,s⟩:=hF;have Y:∃b,Bk D ns i=O b:=by grind[C6,Bk]
     obtain⟨b,Y⟩:=Y;obtain⟨q,hh,pp,q1,q2,q3⟩:=arz Y;obtain⟨y,o2,a6,a5⟩:=Hy s.imK (show RP I (.sl (D.hN.map λ n=>[eI n]) X) x2 from r2) (i:=i) (e:=[eI hh]) bP pv mZ Q;obtain⟨b4,bd,aD⟩:=a5 0 (eI hh) Q;simp only[RP]at aD;obtain⟨rfl,_⟩:=aD;have lh:=vA bd;rw[sK]at lh;refine aB (aS (H':=K) (λ T=>ai T 3=aW i/\ai T 4=ao hh) (nP N F a6 lh) ?_)
     rintro T6 ⟨t3,t4⟩ k6
     obtain⟨A,b2,N,M,F⟩:=nR k6 A b2 N M F;have ay:C5 pI:=λ q i x h=>EI (.given Q h)
     refine aB (aB (QD (pf:=O6) (T:=[(0,.rp (D.c ns es (.sl (o.map tf) X)) 0),(2,eI (ns.length:U))]) (T2:=[(5,eI q)]) aH s.gd (λ p hp=>?_) (ev7 ay Q q1) ?_))
     .simp only[cg,lr,lQ]at hp;rcases hp with rfl|rfl
      .exact⟨by rw[A];exact s.rp,Q⟩
      exact⟨by rw[b2];exact Fo,Q⟩
     intro T7 K7 g7 f7 k7 v7;have s:=s.keep f7 g7;have t5:ai T7 5=ao q:=v7 5 _ Q;obtain⟨A,b2,t3,t4,N,M,F⟩:=Dn k7 A b2 t3 t4 N M F;refine aB (QD (pf:=O6) (T:=[(0,.rp (D.c ns es (.sl (o.map tf) X)) 0),(2,eI (ns.length:U)),(3,eI (i:U)),(4,eI hh),(5,eI q)]) (T2:=[(115,eB b)]) aH s.gd (λ p hp=>?_) (ev8 (by have:=hD.a;omega) q1 q2 q3 Y) ?_)
     .simp only[cg,lr,lQ]at hp;rcases hp with rfl|rfl|rfl|rfl|rfl
      .exact⟨by rw[A];exact s.rp,Q⟩
      .exact⟨by rw[b2];exact Fo,Q⟩
      .exact⟨by rw[t3];exact Fo,Q⟩
      .exact⟨by rw[t4];exact Fo,Q⟩
      exact⟨by rw[t5];exact Fo,Q⟩
     intro T8 K8 aJ f8 k8 v8;have s:=s.keep f8 aJ;have aX:ai T8 115=.bool b:=v8 115 _ Q;obtain⟨A,b2,t3,N,M,F⟩:=Aw k8 A b2 t3 N M F;clear k7 k8 v7 v8 t4 t5;refine eX (by rw[fQ,aX]) (λ hb=>mY ?_) (λ hb=>fZ ?_);.subst hb;simp only[C6,Y]at S;cases S;exact⟨Q,⟨_,_,_,_,_,_,_,s⟩,A,b2,N,M,F⟩
     subst hb;simp only[C6,Y]at S;show bB af ng (bZ ng) 208 _ _ _ _;have bc:ns.length+1<=D.pN.length:=by have:=jL hc;omega
     obtain⟨s2,K9,an,f2,p1,p2,p3,s'⟩:=s.azv (gu i) (by have:=hD.a;omega);have Z:=(OS (H:=K9) (v:=u) (off:=9) p2).trans p3;have l9:=BP s.YJ;refine aB (aS (H':=an) (λ _=>True) (zA A g9 l9 t3 @Hl p1 Z) ?_);intro T9 _ k9;obtain⟨A,b2,N,M,F⟩:=nR k9 A b2 N M F;have s:FSx H0 I u D [x0,x1,x2,x3,x4,x5,x6,x7,ao D.lim] (ns++[(i:U)]) es o an s2 se so f2 fe fo cs:=s';clear s';cases hp:zo D (ns++[(i:U)]) D.pE.length 0;.grind
     rename_i b;simp only[hp]at S;refine abx (λ T K=>Dt H0 I u D [x0,x1,x2,x3,x4,x5,x6,x7,ao D.lim] (ns++[(i:U)]) es o' K/\ai T 0=.ptr u 0/\ai T 2=ao (gu ns.length)/\ai T 61=x2/\ai T 62=ao (gu D.hN.length)/\ai T 63=aW i) ?_ ?_
     .refine aB (QD (pf:=O6) (T:=[(0,.rp (D.c (ns++[(i:U)]) es (.sl (o.map tf) X)) 0)]) (T2:=[(127,eB b)]) aH s.gd (λ p hp=>?_) (aqd ay (by have:=hD.d;omega) (by have:=hD.b;omega) (by have:=hD.a;simp;omega) hp) ?_);.simp only[cg,lr,lQ]at hp;subst hp;exact⟨by rw[A];exact s.rp,Q⟩
      intro a4 aM a1 be bb a7;have s:=s.keep be a1;have aV:ai a4 127=.bool b:=a7 127 _ Q;obtain⟨A,b2,N,M,F⟩:=nR bb A b2 N M F;refine eX (by rw[fQ,aV]) (λ hb=>?_) (λ hb=>fZ ?_);.subst hb;obtain⟨am,w1,w2⟩:=ih aM _ es o o' ⟨_,_,_,_,_,_,_,s⟩ gD he S;refine aS (H':=am) (λ _=>True) (jG A @ab2 w1) ?_;intro bm _ ad;exact⟨Q,w2,aL ad A,aL ad b2,aL ad N,aL ad M,aL ad F⟩
      subst hb;cases S;exact⟨Q,⟨_,_,_,_,_,_,_,s⟩,A,b2,N,M,F⟩
     rintro a4 aM ⟨⟨sn,se,so,fn,fe,fo,cs,s⟩,A,b2,N,M,F⟩
     obtain⟨s3,am,p1,p2,p3,s'⟩:=s.aEK;have Z:=(OS (H:=aM) (v:=u) (off:=9) p2).trans p3;have l9:=BP s.YJ;refine aS (H':=am) (λ _=>True) (AQ A @b2 g9 l9 p1 Z) ?_;intro bk _ ab;exact⟨Q,⟨_,_,_,_,_,_,_,s'⟩,aL ab A,aL ab b2,aL ab N,aL ab M,aL ab F⟩
    rintro T6 K6 ⟨hF,c0,c2,bi,bh,bf⟩
    refine iK (H':=K6) (λ T=>ai T 63=aW (i+1)) ?_ ?_
    ·(repeat ((first|apply fC (cf rfl)|apply jF rfl rfl rfl);simp+decide only[AB,bf,M8 (show i<=100000 by have:=hD.c;omega)];rfl))
     exact fX gW
    intro T7 ar k7;exact⟨m',aa,i+1,o',aa,hF,ag,aL k7 c0,aL k7 c2,aL k7 bi,aL k7 bh,ar⟩
   have aq:=tM aq;obtain rfl:mm=0:=aa;cases ag;exact mY ⟨pO,[],Q,Q,hF⟩
  rw[aR (tM hc)]at h;refine aB (WDc (λ T=>ai T 140=.bool (decide (es.length<D.pE.length))) Q (mN A g0 al @Sg l1 ac n1 (iy av @CP)) ?_);intro T3 aC k3;have A:=aL k3 A;refine eX (by rw[fQ,aC]) (λ hc=>?_) (λ hc=>?_)
  .rw[aY (jL hc)]at h;have l3:=PW (s.Nd (i:=3) Q);have n3:dh af 51 x3=O (ao (gu D.hE.length)):=by grind[tB,Ed.c,aeR,HY]
   refine aB (aS (H':=K) (λ T=>ai T 6=ao (gu es.length)) (nP A al ac av) ?_);intro T4 t6 k4;have A:=aL k4 A;refine aB (aS (H':=K) (λ T=>ai T 163=ao (gu D.hE.length)/\ai T 164=aW 0) (xK A g2 @Sg l3 n3) ?_)
   rintro T5 ⟨aA,ah⟩ k5
   obtain⟨A,t6⟩:=jA k5 A t6;refine gR (pq (λ mm T K=>∃(i:R) (o:jO),mm+i=D.hE.length/\Dt H0 I u D [x0,x1,x2,x3,x4,x5,x6,x7,ao D.lim] ns es o K/\yz (C0 D (vP D f) ns es) mm i o=O out'/\ai T 0=.ptr u 0/\ai T 6=ao (gu es.length)/\ai T 163=ao (gu D.hE.length)/\ai T 164=aW i) ?_ D.hE.length _ _ ⟨0,out,aa,⟨_,_,_,_,_,_,_,s⟩,h,A,t6,aA,ah⟩);clear s ax l9 ac l8 l0 l1 aI n9 av n0 n1 k1 k2 k3 k4 k5 aG aE aC A t6 aA ah l3
   rintro mm T K ⟨i,o,hi,hF,ag,A,b6,P,J⟩
   refine aB (aS (H':=K) (λ T=>ai T 165=.bool (decide (i<D.hE.length))) (jG P J @CP) ?_);intro T6 aU k6;obtain⟨A,b6,P,J⟩:=xu k6 A b6 P J;refine aB (eX (by rw[fQ,aU]) (λ ap=>?_) (λ aq=>?_))
   .have ap:=jL ap;obtain⟨m',rfl⟩:∃m',mm=m'+1:=⟨mm- 1,aa⟩;simp only[yz]at ag;obtain⟨o',S,ag⟩:∃o',C0 D (vP D f) ns es i o=O o'/\yz (C0 D (vP D f) ns es) m' (i+1) o'=O out':=by grind
    refine fZ (abx (λ T K=>Dt H0 I u D [x0,x1,x2,x3,x4,x5,x6,x7,ao D.lim] ns es o' K/\ai T 0=.ptr u 0/\ai T 6=ao (gu es.length)/\ai T 163=ao (gu D.hE.length)/\ai T 164=aW i) (gR ?_) ?_)
    .obtain⟨sn,se,so,fn,fe,fo,cs,s⟩:=hF;have Y:∃b,EA D ns es i=O b:=by grind[C0,EA]
     obtain⟨b,Y⟩:=Y;have ay:C5 pI:=λ q i x h=>EI (.given Q h)
     refine aB (aS (H':=K) (λ T=>ai T 7=aW i) J ?_);intro T7 t7 k7;obtain⟨A,b6,P,J⟩:=xu k7 A b6 P J;refine aB (aB (QD (pf:=O6) (T:=[(0,.rp (D.c ns es (.sl (o.map tf) X)) 0),(6,eI (es.length:U)),(7,eI (i:U))]) (T2:=[(185,eB b)]) aH s.gd (λ p hp=>?_) (aud ay (by have:=hD.b;omega) Y) ?_))
     .simp only[cg,lr,lQ]at hp;rcases hp with rfl|rfl|rfl
      .exact⟨by rw[A];exact s.rp,Q⟩
      .exact⟨by rw[b6];exact Fo,Q⟩
      exact⟨by rw[t7];exact Fo,Q⟩
     intro T8 K8 aJ f8 k8 v8;have s:=s.keep f8 aJ;have aT:ai T8 185=.bool b:=v8 185 _ Q;obtain⟨A,b6,t7,P,J⟩:=nR k8 A b6 t7 P J;refine eX (by rw[fQ,aT]) (λ hb=>mY ?_) (λ hb=>fZ ?_);.subst hb;simp only[C0,Y]at S;cases S;exact⟨Q,⟨_,_,_,_,_,_,_,s⟩,A,b6,P,J⟩
     subst hb;simp only[C0,Y]at S;show bB af ng (bZ ng) 208 _ _ _ _;have bc:es.length+1<=D.pE.length:=by have:=jL hc;omega
     obtain⟨s2,K9,an,f2,p1,p2,p3,s'⟩:=s.aJy (gu i) (by have:=hD.b;omega);have Z:=(OS (H:=K9) (v:=u) (off:=10) p2).trans p3;have ac:=BP s.XC;refine aB (aS (H':=an) (λ _=>True) (zA A al ac t7 @Hl p1 Z) ?_);intro T9 _ k9;obtain⟨A,b6,P,J⟩:=xu k9 A b6 P J;have s:FSx H0 I u D [x0,x1,x2,x3,x4,x5,x6,x7,ao D.lim] ns (es++[(i:U)]) o an sn s2 so fn f2 fo cs:=s';clear s';obtain⟨am,w1,sn,se,so,fn,fe,fo,cs,s⟩:=ih an ns _ o o' ⟨_,_,_,_,_,_,_,s⟩ hn gD S;refine aB (aS (H':=am) (λ _=>True) (jG A @ab2 w1) ?_);intro bm _ ad;obtain⟨A,b6⟩:=jA ad A b6;obtain⟨s3,bn,p1,p2,p3,s'⟩:=s.aBJ;have Z:=(OS (H:=am) (v:=u) (off:=10) p2).trans p3;have ac:=BP s.XC;refine aS (H':=bn) (λ _=>True) (AQ A b6 al ac p1 Z) ?_;intro bk _ ab;exact⟨Q,⟨_,_,_,_,_,_,_,s'⟩,aL ab A,aL ab b6,aL ab (aL ad P),aL ab (aL ad J)⟩
    rintro T6 K6 ⟨hF,c0,c6,a3,a2⟩
    refine iK (H':=K6) (λ T=>ai T 164=aW (i+1)) ?_ ?_
    ·(repeat ((first|apply fC (cf rfl)|apply jF rfl rfl rfl);simp+decide only[AB,a2,M8 (show i<=100000 by have:=hD.d;omega)];rfl))
     exact fX gW
    intro T7 ah k7;exact⟨m',aa,i+1,o',aa,hF,ag,aL k7 c0,aL k7 c6,aL k7 a3,ah⟩
   have aq:=tM aq;obtain rfl:mm=0:=aa;cases ag;exact mY ⟨pO,[],Q,Q,hF⟩
  rw[aR (tM hc)]at h;split at h
  .rename_i aZ;cases h;obtain⟨cN,K1,cE,K2,s2,K4,K5,f2,p1,p2,p3,p4,p5,p6,p7,p8,p9,ba,a9⟩:=s.push (ng:=ng) (by have:=hD.a;omega) (by have:=hD.b;omega) aZ;have S:=(aul (H:=K4) (v:=u) (off:=11) p9).trans ba;refine adz ?_
   (iterate 4 (apply nY Q (cf Q);simp+decide only[AB,A,az];rfl))
   (apply xz Q (cf Q);simp+decide only[AB,A,az,ax];rfl)
   (iterate 3 (apply nY Q (cf Q);simp+decide only[AB,A,g9];rfl))
   (apply xz Q (cf Q);simp+decide only[AB,A,g9,l9];rfl)
   refine Hw (r:=(cN,K1)) Q (cf Q) ?_ (λ v q e=>p2.row v q e aw) aH ?_;.simp+decide only[AB,A,mG,ou,Rk,p1]
   (iterate 3 (apply nY Q (cf Q);simp+decide only[AB,A,al];rfl))
   (apply xz Q (cf Q);simp+decide only[AB,A,al,ac];rfl)
   refine Hw (r:=(cE,K2)) Q (cf Q) ?_ (λ v q e=>p5.row v q e aw) aH ?_;.simp+decide only[AB,A,mG,ou,Rk,p4]
   (apply nY Q (cf Q);simp+decide only[AB,ar1 p3 p6];rfl)
   refine aeJ (r:=(.slice K2.ae 0 1 X,alloc K2 [cN,cE] V 2)) Q (cf Q) ?_ (λ v q e=>(iv p7 [cN,cE] V 2).row v q e aw) ?_;.simp+decide only[AB,aA9]
   refine Qc (r:=(s2,K4)) Q (cf Q) ?_ aH aH ?_;.simp+decide only[AB,p8]
   (iterate 2 (apply nY Q (cf Q);simp+decide only[AB,A,az];rfl))
   refine Qc (r:=(.tuple [],K5)) Q (cf Q) ?_ aH aH ?_;.simp+decide only[AB,A,S]
   refine R5 λ _=>?_
   exact⟨pO,[],Q,Q,_,_,_,_,_,_,_,a9⟩
  cases h
end
section
variable{ng:R}{I:Im}{H K:aj}{G:Gh}{D:FV}
def aJv{l:aF}{H:aj}:eL af aae 299 l H=aae 299 l H:=by simp only[eL,Tryz.func299];rfl
def avh:Tryz.prog.info? 362=O Tryz.t362:=aH
def aCD:Tryz.prog.info? 53=O Tryz.t53:=aH
def aIm(h:aQ g v off 2=O [a,b]):cr af g 64 (.ptr v off)=O (.agg [a,b]):=by have u:Tryz.t64.size=2:=rfl;simp only[cr,Tryz.underlying64,Vh,u,h];rfl
def asX:fW af 365=O (.agg [.aq,.aq,.aq,.aq,.aq,.aq,.aq,.bool W,ao 0,.aq,.aq,.aq]):=aH
def axe{c d e f g:au}{l:U}(K:e.dm=V):mc af 365 (O [(0,.agg [a,b]),(1,.agg [c,d]),(2,e),(3,.agg [f,g]),(4,.bool j),(5,ao l)])=O (.agg [a,b,c,d,e,f,g,.bool j,ao l,.aq,.aq,.aq]):=by have P:e.cells=[e]:=zG K;have h1:(au.agg [a,b]).cells=[a,b]:=rfl;have h2:(au.agg [c,d]).cells=[c,d]:=rfl;have N:(au.agg [f,g]).cells=[f,g]:=rfl;have M:(au.bool j).cells=[.bool j]:=rfl;have h5:(au.int .i64 l).cells=[ao l]:=rfl;have J:(au.agg [.aq,.aq,.aq,.aq,.aq,.aq,.aq,.bool W,ao 0,.aq,.aq,.aq]).cells=[.aq,.aq,.aq,.aq,.aq,.aq,.aq,.bool W,ao 0,.aq,.aq,.aq]:=rfl;have F:Tryz.t53.size=2:=rfl;have D:Tryz.t362.size=1:=rfl;have A:Tryz.t64.size=2:=rfl;have y:Tryz.t4.size=1:=rfl;have u:Tryz.t3.size=1:=rfl;have i4:Tryz.prog.info? 4=O Tryz.t4:=aH;simp+decide only[mc,asX,asc,fill,Dc,aCD,avh,Vh,i4,mZ,FL,WW,P,h1,h2,N,M,h5,J,eV,KO,OD,F,D,A,y,u,ny,Oz,apT,OB,rO,tP,jM,kS,gU,kR,mG,AX]
def aHk(g:Good H)(Z:bO I H.ah.get)(hD:DOk D){tn:aP}{P N J F h0 h1 A q1:au}(ag:RP I (.sl tn none) P)(ad:RP I (.sl te none) N)(an:RP I (aO D.pN) J)(zQ:RP I (gS D.pE) F)(ar:RP I (aO D.hN) h0)(ap:RP I (gS D.hE) h1)(am:RP I (aO D.qN) A)(al:RP I (aO D.qE) q1)
 (hb:VW js pI 299 [.agg [.sl tn none,.sl te none]] []=O (.sl (D.bl.map λ r=>[xS r]) (O 1),[],W)) {f:R} {out:jO} (hf:vP D f [] [] []=O out):
 ∃r,fp af ng (bZ ng) 241 [.agg [P,N],.agg [J,F],.agg [h0,h1],.agg [A,q1],.bool D.inj,ao D.lim] H r/\Fr none H r.2/\Good r.2/\(m9 mI).rel r.2.ah.get (λ f=>f<H.ae) out [r.1]:=by
 obtain⟨H1,aD,g1,f1,o1,_⟩:=mg g [P,N] true 1;obtain⟨H2,aC,g2,f2,o2,_⟩:=mg g1 [J,F] true 1;obtain⟨H3,aA,g3,f3,o3,_⟩:=mg g2 [h0,h1] true 1;obtain⟨Y,az,g4,f4,o4,_⟩:=mg g3 [A,q1] true 1;have ab:=((f1.trans f2).trans f3).trans f4;have aN:∀{K:aj},Fr none Y K->cr af K.ah.get 34 (.ptr H.ae 0)=O (.agg [P,N]):=λ {K} fr=>Ii (by have:=(((f2.trans f3).trans f4).trans fr).row _ _ o1.row aw;simp only[aQ,this];rfl)
 have aM:∀{K:aj},Fr none Y K->cr af K.ah.get 53 (.ptr H1.ae 0)=O (.agg [J,F]):=λ {K} fr=>abm (by have:=((f3.trans f4).trans fr).row _ _ o2.row aw;simp only[aQ,this];rfl)
 have aI:∀{K:aj},Fr none Y K->cr af K.ah.get 53 (.ptr H2.ae 0)=O (.agg [h0,h1]):=λ {K} fr=>abm (by have:=(f4.trans fr).row _ _ o3.row aw;simp only[aQ,this];rfl)
 have aG:∀{K:aj},Fr none Y K->cr af K.ah.get 64 (.ptr H3.ae 0)=O (.agg [A,q1]):=λ {K} fr=>aIm (by have:=fr.row _ _ o4.row aw;simp only[aQ,this];rfl)
 have rT:bu ρ0 (eh I H Y) [.agg [.sl tn none,.sl te none]] [.agg [P,N]]:=bJ.2 ⟨_,_,Q,by simp only[aJ];exact⟨Q,_,Q,bJ.2 ⟨_,_,Q,by simp only[aJ];exact fD (nw g Z) _ _ ag,bJ.2 ⟨_,_,Q,by simp only[aJ];exact fD (nw g Z) _ _ ad,by simp only[bu]⟩⟩⟩,by simp only[bu]⟩
 obtain⟨b,K1,e1,e2,e3,e4,e5⟩:=yo (ng:=ng) (Vd (ng:=ng)) qY uT g Z g4 ab hb Q Q rT;have e5:RP (eh I H K1) (.sl (D.bl.map λ r=>[xS r]) none) b:=by simpa only[aJ]using e5
 have ob:b.dm=true:=C1 (ρ:=ρ0) (v:=.sl (D.bl.map λ r=>[xS r]) none) (by simpa only[aJ]using e5) Q;have S:=ab.trans e3;have ay:bO (eh I H K1) K1.ah.get:=TV Z S;have mono:∀{v:ak} {a:au},RP I v a->RP (eh I H K1) v a:=λ {v a} h=>fD (nw g Z) _ _ h
 obtain⟨K2,ax,gF,fF,oF,_⟩:=mg e2 [J,F,h0,h1,b,A,q1,.bool D.inj,ao D.lim,.aq,.aq,.aq] true 1;have y:∀{sz:R},cm K2 sz 0 .aq [] none:=λ {sz}=>⟨aw,.inl ⟨Q,Q,Q⟩⟩
 have S0:FSx K1 (eh I H K1) K1.ae D [J,F,h0,h1,b,A,q1,.bool D.inj,ao D.lim] [] [] [] K2 .aq .aq .aq none none none []:=⟨e2,aZ _,ay,⟨_,_,Q,mono an,_,_,Q,mono zQ,_,_,Q,mono ar,_,_,Q,mono ap,_,_,Q,e5,_,_,Q,mono am,_,_,Q,mono al,_,_,Q,by simp[RP,jP],_,_,Q,by simp[RP,jP],Q⟩,gF,fF,oF,y,y,y,λ i x h=>by simp at h,λ f e=>bk,λ f e=>bk,λ f e=>bk,λ f e=>bk,λ f e=>bk⟩;obtain⟨K3,w1,sn,se,so,fn,fe,fo,cs,s⟩:=an1 (ng:=ng) hD f K2 [] [] [] out ⟨_,_,_,_,_,_,_,S0⟩ (kG _) (kG _) hf;obtain⟨g0,aT,g5,g8,g9,aU,aE⟩:=akA (v:=K1.ae) (o:=0);have av:=aez s.als;refine lp Tryz.func241 Q ?_;show bB af ng (bZ ng) 29 _ _ _ _;generalize u:([au.agg [P,N],.agg [J,F],.agg [h0,h1],.agg [A,q1],.bool D.inj,ao D.lim]:aF)=args;have a0:ai (eH args 0 .nil) 0=.agg [P,N]:=by rw[<-u];rfl
 have a1:ai (eH args 0 .nil) 1=.agg [J,F]:=by rw[<-u];rfl
 have a2:ai (eH args 0 .nil) 2=.agg [h0,h1]:=by rw[<-u];rfl
 have a3:ai (eH args 0 .nil) 3=.agg [A,q1]:=by rw[<-u];rfl
 have a4:ai (eH args 0 .nil) 4=.bool D.inj:=by rw[<-u];rfl
 have a5:ai (eH args 0 .nil) 5=ao D.lim:=by rw[<-u];rfl
 have c0:(au.agg [P,N]).cells=[P,N]:=rfl;have c1:(au.agg [J,F]).cells=[J,F]:=rfl;have c2:(au.agg [h0,h1]).cells=[h0,h1]:=rfl;have c3:(au.agg [A,q1]).cells=[A,q1]:=rfl;refine aB (aS (H':=Y) (λ T=>ai T 6=.ptr H.ae 0/\ai T 7=.ptr H1.ae 0/\ai T 8=.ptr H2.ae 0/\ai T 9=.ptr H3.ae 0) (mN a0 a1 a2 a3 c0 c1 c2 (xK c3 aD aC aA az)) ?_)
 rintro T1 ⟨t6,t7,t8,t9⟩ k1
 obtain⟨b4,b5⟩:=jA k1 a4 a5;refine aB (adz ?_)
 (apply xz Q (cf Q);simp+decide only[AB,t7,aM (Fr.refl _ _)];rfl)
 (apply xz Q (cf Q);simp+decide only[AB,t8,aI (Fr.refl _ _)];rfl)
 (apply xz Q (cf Q);simp+decide only[AB,t6,aN (Fr.refl _ _)];rfl)
 refine Hw (r:=(b,K1)) Q (cf Q) ?_ (λ v q e=>e3.row v q e aw) aH ?_;.simp+decide only[AB,mG,ou,aJv,e1]
 (apply xz Q (cf Q);simp+decide only[AB,t9,aG (Fr.refl _ _)];rfl)
 (iterate 2 (apply nY Q (cf Q);simp+decide only[AB,b4,b5];rfl))
 (apply nY Q (cf Q);simp+decide only[AB,axe ob];rfl)
 refine aeJ (r:=(.ptr K1.ae 0,K2)) Q (cf Q) ?_ (λ v q e=>fF.row v q e aw) ?_
 .have cc:∀l,(au.agg l).cells=l:=λ _=>rfl
  simp+decide only[AB,cc,ax]
 (apply nY Q (cf Q);simp+decide only[AB];rfl)
 refine R5 λ k2=>?_
 show bB af ng (bZ ng) 29 _ _ _ _;generalize hT:dZ 29 _ _ _=T2 at k2⊢;have M:ai T2 13=.ptr K1.ae 0:=by rw[<-hT];simp+decide only[AB]
 clear hT k2;refine aB (aS (H':=K3) (λ _=>True) (jG M @ab2 w1) ?_);intro T3 _ k3;have M:=aL k3 M;refine aB (aS (H':=K3) (λ T=>ai T 12=so) (jG M aE av) ?_);intro T4 ac _;have aR:H.ae<=K1.ae:=S.ae;refine iZ ⟨aw,[so],?_,S.trans s.fr,s.gd,so,cs,Q,s.oo.Pk (λ f e h=>?_),λ i x hx=>mI.sub (λ f h=>?_) (s.el i x hx)⟩;.show eG af _ _ [.tmp 12]=_;simp only[eG,ac]
 .have:=s.n3 f e;have h:f<H.ae:=h;omega
 .have h:f<H.ae:=h;exact .inl aa
end
section
variable{ng:R}{G:Gh}{H:aj}{I:Im}
def aBa:afY (bZ ng):=λ H s bs g u y=>by obtain⟨r,h1,h2⟩:=aq3 (ng:=ng) (aae:=bZ ng) g u y;exact⟨r,nW Q h1,h2⟩
def ay3:amw (bZ ng):=λ I H lE n bs P S Z Y g K hE y A h1 h2 D J F u=>by obtain⟨r,N,M⟩:=avY (ng:=ng) (aBa (ng:=ng)) g K hE y A h1 h2 D J F u;exact⟨r,nW Q N,M⟩
def ag4:∀(n i:R) (o:aK),nt i (ef n V) o=o++(List.range n).map λ j=>((i+j:R):U)
 |0,i,o=>by simp[nt]
 |n+1,i,o=>by
  rw[OI];simp only[nt,KI];rw[ag4 n (i+1),apL,nA,lP,KM]
  congr 1
  simp only[AX,mG,sK,UQ,true_and];apply mH;intro j _;simp only[Function.comp]
  congr 1
  omega
def afn(n:R):nt 0 (ef n V) []=bI n:=by rw[ag4];simp[bI]
def akh(h:i<64):Bb (agr 64) i=true:=by have:∀i:Fin 64,Bb (agr 64) i.val=true:=cB;exact this ⟨i,h⟩
def axR{o:R}(h:o+n<=64):vQ (agr 64) o n=ef n true:=by
 apply List.ext_getElem;.simp[vQ]
 intro i h1 h2;simp only[vQ,List.getElem_map,List.getElem_range,List.getElem_replicate];have:i<n:=by simpa[vQ]using h1
 exact akh aa
def WU{v w:ak}{ρ:Bx}(h:bu ρ I [v,w] xs):∃a b,xs=[a,b]/\aJ ρ I v a/\aJ ρ I w b:=by obtain⟨c,F,rfl,h1,h2⟩:=bJ.1 h;obtain⟨D,A,rfl,y,u⟩:=bJ.1 h2;simp only[bu]at u;subst u;exact⟨c,D,Q,h1,y⟩
theorem aJ0(A:cH G (eJ []) H){lN:aK}{lE:vm}(hn:lN.length<=10)(hm:lE.length<=20)(F:∀e∈lE,(0<=e.fr/\e.fr<lN.length)/\(0<=e.to/\e.to<lN.length))
 (hr:bu ρ0 G.I [.agg [aO lN,.sl (lE.map Ed.c) X],eW (agr 64)] xs):iV 0 G [] H (bZ ng 10 xs H) (.agg [aO (bI lN.length),aO (bI lE.length)]) [] false:=by
 obtain⟨x,y,rfl,h1,h2⟩:=WU hr;simp only[aJ]at h1 h2;obtain⟨_,bs,rfl,h3⟩:=h1;obtain⟨sN,sE,rfl,D,h5⟩:=WU h3;have Z:=C1 D Q;have oE:=C1 h5 Q;have D:RP G.I (aO lN) sN:=by simpa only[aJ]using D
 have h5:RP G.I (.sl (lE.map Ed.c) X) sE:=by simpa only[aJ]using h5
 obtain⟨rfl,_⟩:=h2;obtain⟨r,q1,q2,Y,u,v,fu,fv,N,M,S,K,P⟩:=aEo (ng:=ng) (ay3 (ng:=ng)) A.gd A.gI D h5 Z oE hn hm F λ i hi=>akh aa
 rw[afn]at M;rw[axR aa,afn]at K;rw[nW Q q1];obtain⟨w,H'⟩:=r;simp only at N;subst N;have J:=yl (qY (ng:=ng)) q1;have r1:=M.rp (I:=G.I) A.gd q2 J S (es:=(bI lN.length).map λ n=>[eI n]) F1 FD;have r2:=K.rp (I:=G.I) A.gd q2 J P (es:=(bI lE.length).map λ n=>[eI n]) F1 FD;refine yX A Y q2 J ?_ λ j es sz c e e2=>?_
 .simp only[aJ];refine⟨Q,_,Q,bJ.2 ⟨u,[v],Q,by simpa only[aJ]using r1,bJ.2 ⟨v,[],Q,by simpa only[aJ]using r2,by simp only[bu]⟩⟩⟩
 .match j with
  |0=>cases e
  |1=>cases e
  |j+2=>cases e
end
section
variable{D:FV}{args:be}{h0 h1 p0 p1 q0 q1:aP}{l:U}{out:jO}{v:ak}
variable{ng:R}{I:Im}{H K:aj}{G:Gh}
theorem map_inj{α β:Type}{c:α->β}(u:∀a b,c a=c b->a=b):∀{l m:B α},l.map c=m.map c->l=m
 |[],[],_=>rfl
 |[],_::_,h=>by cases h
 |_::_,[],h=>by cases h
 |a::l,b::m,h=>by simp at h;rw[u a b h.1,map_inj u h.2]
theorem anL(a b:Ed)(h:a.c=b.c):a=b:=by obtain⟨u⟩:=a;obtain⟨b1⟩:=b;grind[Ed.c]
structure Ld (tn te p0 p1 h0 h1 q0 q1:aP) (j:mi) (l:U) (D:FV) (out:jO):Prop where
 ok:DOk D
 e1:p0=D.pN.map λ n=>[eI n]
 e2:p1=D.pE.map Ed.c
 e3:h0=D.hN.map λ n=>[eI n]
 e4:h1=D.hE.map Ed.c
 e5:q0=D.qN.map λ n=>[eI n]
 e6:q1=D.qE.map λ n=>[eI n]
 e7:j=D.inj
 e8:l=D.lim
 bl:VW js pI 299 [.agg [.sl tn none,.sl te none]] []=some (.sl (D.bl.map λ r=>[xS r]) (some 1),[],false)
 fd:vP D (D.pN.length+D.pE.length+1) [] [] []=some out
theorem Ld.Km{tn:aP}{D':FV}{out':jO}(h:Ld tn te p0 p1 h0 h1 q0 q1 j l D out)(k:Ld tn te p0 p1 h0 h1 q0 q1 j l D' out'):out=out':=by
 obtain⟨_,e1,e2,e3,e4,e5,e6,e7,e8,b,f⟩:=h;obtain⟨_,K,J,F,A,y,u⟩:=k;have P:=Fa (e1.symm.trans K);have N:=map_inj anL (e2.symm.trans J);have x3:=Fa (e3.symm.trans F);have x4:=map_inj anL (e4.symm.trans A);have x5:=Fa (e5.symm.trans y);have M:=Fa (e6.symm.trans u);have x9:D.bl=D'.bl:=by grind[map_inj]
 obtain⟨Z,Y,S⟩:=D;simp_all
inductive yV:FuncId->B ak->ak->Prop
 |one {f:FuncId} {a:B ak} {v:ak} (h:pw f a v):yV f a v
 |attrs {tn te:aP} {i:R} {ats:B wh} (ht:sO tn) (hsum:∀i,i<tn.length->(dP tn (i+1) i).length<=1000) (hi:i<tn.length) (hgv:VW js pI 196 [.agg [.sl tn none,.sl te none],aO [(i:U)]] []=some (eI 0,[],false)) (hat:dP tn (i+1) i=ats.map wC) (hln:∀x∈ats,x.2.2.2.length<=1000):yV 168 [.agg [.sl tn none,.sl te none],eI (i:U)] (.bp [.sl (dP tn (i+1) i) none,eI 0])
 |found {tn te p0 p1 h0 h1 q0 q1:aP} {j:mi} {l:U} {D:FV} {out:jO} (h:Ld tn te p0 p1 h0 h1 q0 q1 j l D out):yV 241 [.agg [.sl tn none,.sl te none],.agg [.sl p0 none,.sl p1 none],.agg [.sl h0 none,.sl h1 none],.agg [.sl q0 none,.sl q1 none],eB j,eI l] (.sl (out.map tf) none)
 |keep {es fs:aP} {lN:B U} {lE:B Ed} (e:es=lN.map λ n=>[eI n]) (f:fs=lE.map Ed.c) (hn:lN.length<=10) (hm:lE.length<=20) (hin:∀e∈lE,(0<=e.fr/\e.fr<lN.length)/\(0<=e.to/\e.to<lN.length)):yV 10 [.agg [.sl es none,.sl fs none],eW (BitVec.allOnes 64)] (.agg [aO (bI es.length),aO (bI fs.length)])
def yV.Km{f:ck}{a:be}{w:ak}(h1:yV f a v)(h2:yV f a w):v=w:=by
 cases h1 with
 |one h=>cases h2 with
  |one u=>exact h.Km u
  |attrs=>cases h
  |found=>cases h
  |keep=>cases h
 |attrs K y N F J A=>
  generalize e:eI _=x at h2;cases h2 with
  |one h=>cases h
  |attrs=>rw[Mf e]
 |found h=>
  cases h2 with
  |one h=>cases h
  |found u=>rw[h.Km u]
 |keep e f M hm D=>
  cases h2 with
  |one h=>cases h
  |keep=>rfl
open Classical in
noncomputable def ml:fi:=λ f args=>if h:∃v,yV f args v then O (Classical.choose h)else X
theorem ake{f:ck}(h:ml f args=O v):yV f args v:=by
 unfold ml at h;split at h;.grind
 cases h
def Nh{f:ck}(h:yV f args v):ml f args=O v:=by have u:∃v,yV f args v:=⟨v,h⟩;unfold ml;rw[OG u,(Et u).Km h]
theorem R7{ρ:Bx}{a b:ak}{c:au}(h:aJ ρ I (.agg [a,b]) c):∃x y,c=.agg [x,y]/\aJ ρ I a x/\aJ ρ I b y:=by obtain⟨_,bs,rfl,h⟩:=h;obtain⟨x,A,rfl,h1,h2⟩:=bJ.1 h;obtain⟨y,A,rfl,D,u⟩:=bJ.1 h2;rw[bu]at u;grind
def aqV(F:cH G (eJ []) H){tn:aP}{D:B wh}(Z:sO tn)(y:∀i,i<tn.length->(dP tn (i+1) i).length<=1000)(hi:i<tn.length)(K:VW js pI 196 [.agg [.sl tn X,.sl te X],aO [(i:U)]] []=O (eI 0,[],false))(A:dP tn (i+1) i=D.map wC)(J:∀x∈D,x.2.2.2.length<=1000)
 (hr:bu ρ0 G.I [.agg [.sl tn X,.sl te X],eI (i:U)] xs):iV 0 G [] H (bZ ng 168 xs H) (.bp [.sl (dP tn (i+1) i) X,eI 0]) [] false:=by
 obtain⟨sN,sE,rfl,h1,h2,_⟩:=aji hr;obtain⟨⟨v⟩,N,s,rfl,M,Y,S⟩:=axm F.gd F.gI Z y hi h1 h2 K A J;rw[nW Q N];have P:=yl qY N;rw[A];refine yX F Y M P (.inr ⟨_,Q,bJ.2 ⟨_,_,Q,by simpa only[aJ]using(Uy aiZ (λ u r e h=>akk F.gd M P u r e h) S),bJ.2 ⟨_,[],Q,by simp[aJ,jP],by rw[bu]⟩⟩⟩) λ j es sz c e e2=>?_
 .match j with
  |0=>cases e
  |j+1=>cases e
def aBW(F:cH G (eJ []) H){tn:aP}(h:Ld tn te p0 p1 h0 h1 q0 q1 j l D out)
 (y:bu ρ0 G.I [.agg [.sl tn X,.sl te X],.agg [.sl p0 X,.sl p1 X],.agg [.sl h0 X,.sl h1 X],.agg [.sl q0 X,.sl q1 X],eB j,eI l] xs):iV 0 G [] H (bZ ng 241 xs H) (.sl (out.map tf) X) [] false:=by
 obtain⟨ok,e1,e2,e3,e4,e5,e6,e7,e8,hb,hf⟩:=h;subst e1 e2 e3 e4 e5 e6 e7 e8;obtain⟨a1,A,rfl,r1,y⟩:=bJ.1 y;obtain⟨a2,A,rfl,r2,y⟩:=bJ.1 y;obtain⟨a3,A,rfl,r3,y⟩:=bJ.1 y;obtain⟨a4,A,rfl,r4,y⟩:=bJ.1 y;obtain⟨a5,A,rfl,r5,y⟩:=bJ.1 y;obtain⟨a6,A,rfl,r6,rfl⟩:=bJ.1 y;obtain⟨t0,t1,rfl,Y,S⟩:=R7 r1;obtain⟨p0,p1,rfl,x3,x4⟩:=R7 r2;obtain⟨h0,h1,rfl,x5,P⟩:=R7 r3;obtain⟨q0,q1,rfl,N,x8⟩:=R7 r4;have x9:=r5.1;have wL:=r6.1;subst x9 wL;obtain⟨⟨v⟩,K,J,w4,Z⟩:=aHk F.gd F.gI ok Y S x3 x4 x5 P N x8 hb hf;rw[nW Q K];have M:=yl qY K;refine yX F w4 J M (by simpa only[aJ]using(Uy alI (λ u r e h=>akk F.gd J M u r e h) Z)) λ j es sz c e e2=>?_
 match j with
 |0=>cases e
 |j+1=>cases e
theorem axN(N:∀G:Gh,mJ ng js G):Sk ng js bset ml (bZ ng):=by
 have h1:=aej N;refine⟨λ f args v hb h J D G H xs A hg F=>?_,h1.open_,Zm,λ f args v y h J D=>?_⟩
 .replace h:=ake h
  cases h with
  |one h=>exact h1.some_ f args v hb (EI h) J D G H xs A hg F
  |attrs S u Z M P K=>exact aqV A S u Z M P K F
  |found h=>exact aBW A h F
  |keep e f hn hm Y=>grind[aJ0]
 replace h:=ake h
 cases h with
 |one h=>exact h1.U6 f args v y (EI h) J D
 |attrs=>cases y
 |found=>cases y
 |keep=>cases y
def Ee:pJ ng js (VW js ml) (bZ ng):=YX (λ _ _ _ _ u h=>hL u h) (axN λ _=>uT)
end
end
end Go.Abs
