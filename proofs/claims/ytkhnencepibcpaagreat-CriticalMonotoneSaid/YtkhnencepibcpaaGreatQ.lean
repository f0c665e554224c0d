/- made. -/
import Derived.Test.YtkhnencepibcpaaGreatB
import Derived.Test.YtkhnencepibcpaaGreatN
import Derived.Test.YtkhnencepibcpaaGreatP
set_option linter.all false
set_option maxRecDepth 100000
open Bool renaming false->W,true->V
open Go.Proofs.Tryz renaming underlying22->adq,underlying23->adi,underlying24->atO,underlying27->abt,underlying28->aeY,underlying30->aeK,underlying31->adp,underlying34->atN,underlying68->adf,underlying9->au7
open Int renaming ofNat->gu
open List renaming drop_of_length_le->apz,length_map->HY,mem_singleton->aaS,take_of_length_le->PN
open Option renaming none->X,some->O
open _root_ renaming Int->U,List->B,Nat->R,decide_eq_true_eq->ayK,rfl->Q
namespace Go.Abs
noncomputable section
open Go Go.Proofs
variable{a d:lB}{b ge gn he hn ke kn me mn xa xb xc xd:au}{e:be}{g:fE}{gE gN iE iN:aP}{i n off sz u10 u11 u9:R}{j:U}{nm s:jo}{ρ:Bx}
section
variable{TN TE:aP}
abbrev nS:ak:=.sl [] X
abbrev CT:be:=[eI 1,nS,nS,nS,nS,nS,nS,eI 0,nS]
abbrev CX(iN iE gN gE:aP):be:=[eI 5,.sl [CT] X,.sl iN X,.sl iE X,.sl gN X,.sl gE X,nS,eI 0,nS]
abbrev ruC(nm:jo)(gN gE hN hE kN kE iN iE:aP)(u:aP):be:=[.sc (.str nm),.sl gN X,.sl gE X,nS,eI 0,nS,.sl hN X,.sl hE X,nS,eI 0,nS,.sl kN X,.sl kE X,.sl iN X,.sl iE X,eB V,eI ((u.length:U)+1),.sl u X,nS,nS,nS,nS,nS,eI 0,nS]
theorem aFN:de (aC TN TE) 14 [] j CT:=by refine(iO iB Q).2 ⟨Q,[SV.z,nI j],Q,aZ _,?_,nofun⟩;rfl
structure F5 (tn te gN gE hN hE iN iE:aP):Prop where
 g:tz tn te hN hE
 pn:nh gN hN
 pe:nh gE hE
 n1:gN.length<=hN.length
 n2:hN.length<=5
 e1:gE.length<=hE.length
 e2:hE.length<=4
 i1:iN.length=gN.length
 i2:iE.length=gE.length
 i3:∀(k:R) e,iN[k]? =some e->de (aC tn te) 1 [] k e
 i4:∀(k:R) e,iE[k]? =some e->de (aC tn te) 1 [] k e
variable{tn te gN gE hN hE iN iE:aP}
theorem arq(h:F5 tn te gN gE hN hE iN iE):de (aC tn te) 15 [(tn.length:U),(te.length:U),(gN.length:U),(gE.length:U)] j (CX iN iE hN hE):=by
 refine(iO iB (nm:=15) Q).2 ⟨Q,[SV.z,nI tn.length,nI te.length,nI gN.length,nI gE.length,nI j,lS [CT],lS iN,lS iE,lS hN,lS hE,nI hN.length,nI hE.length],Q,aZ _,?_,λ f u=>?_⟩;.rfl
 have n1:=h.n1;have n2:=h.n2;have e1:=h.e1;have e2:=h.e2;have i1:=h.i1;have i2:=h.i2;simp at u;rcases u with rfl|rfl|rfl|rfl|rfl|rfl|rfl|rfl|rfl|rfl
 .refine⟨Q,λ k e he=>?_⟩;have he:[CT][k]? =O e:=he;grind[aFN]
 .exact⟨by show(iN.length:U)=(gN.length:U)+0;omega,h.i3⟩
 .exact⟨by show(iE.length:U)=(gE.length:U)+0;omega,h.i4⟩
 .exact⟨(fJ _).symm,λ i x hx=>by have:=h.g.n i x hx;grind[cM,aX,nI]⟩
 .exact⟨(fJ _).symm,λ i x hx=>by have:=h.g.e i x hx;exact this⟩
 .exact h.g.g
 .show(gN.length:U)<=(hN.length:U)+0;omega
 .show(hN.length:U)<=(0:U)+8;omega
 .show(gE.length:U)<=(hE.length:U)+0;omega
 show(hE.length:U)<=(0:U)+8;omega
def alv:((bI n).map λ n=>[eI n]).length=n:=by rw[br,GW]
theorem anA(J:nm∈rJ)(K:tz tn te gN gE)(n3:gN.length<=3)(e2:gE.length<=2)(h:F5 tn te gN gE hN hE iN iE){u:aP}(N:u=[]\/∃y A D F,F5 tn te gN gE y A D F/\u=[CX D F y A]){j:U}:
 de (aC tn te) 16 [(tn.length:U),(te.length:U),1] j (ruC nm gN gE hN hE ((bI gN.length).map λ n=>[eI n]) ((bI gE.length).map λ n=>[eI n]) iN iE u):=by
 have P:u.length<=1:=by grind
 have n1:=h.n1;have n2:=h.n2;have e1:=h.e1;have e4:=h.e2;have i1:=h.i1;have i2:=h.i2;refine(iO iB ajc).2 ⟨Q,[SV.z,nI tn.length,nI te.length,nI 1,nI j,⟨0,W,nm,[]⟩,lS gN,lS gE,lS hN,lS hE,lS ((bI gN.length).map λ n=>[eI n]),lS ((bI gE.length).map λ n=>[eI n]),lS iN,lS iE,nI u.length,lS u,nI gN.length,nI gE.length,nI hN.length,nI hE.length,nI gN.length,nI gE.length],Q,aZ _,?_,λ f M=>?_⟩;.rfl
 simp only[xI,cg,lr,lQ]at M;rcases M with rfl|rfl|rfl|rfl|rfl|rfl|rfl|rfl|rfl|rfl|rfl|rfl|rfl|rfl|rfl|rfl|rfl|rfl|rfl|rfl|rfl|rfl|rfl|rfl|rfl|rfl|rfl|rfl|rfl|rfl
 .exact J
 .exact⟨(fJ _).symm,λ i x hx=>by have:=K.n i x hx;grind[cM,aX,nI]⟩
 .exact⟨(fJ _).symm,λ i x hx=>by have:=K.e i x hx;exact this⟩
 .exact K.g
 .exact⟨(fJ _).symm,λ i x hx=>by have:=h.g.n i x hx;grind[cM,aX,nI]⟩
 .exact⟨(fJ _).symm,λ i x hx=>by have:=h.g.e i x hx;exact this⟩
 .exact h.g.g
 .exact⟨by show(((bI gN.length).map λ n=>[eI n]).length:U)=(gN.length:U)+0;rw[alv];omega,λ i x hx=>by rw[Pc (m:=gN.length) hx];exact PO (v:=0)⟩
 .exact⟨by show(((bI gE.length).map λ n=>[eI n]).length:U)=(gE.length:U)+0;rw[alv];omega,λ i x hx=>by rw[Pc (m:=gE.length) hx];exact PO (v:=0)⟩
 .exact⟨by show(iN.length:U)=(gN.length:U)+0;omega,h.i3⟩
 .exact⟨by show(iE.length:U)=(gE.length:U)+0;omega,h.i4⟩
 .show(0:U)<=(gN.length:U)+0;omega
 .show(gN.length:U)<=(gN.length:U)+0;omega
 .show(0:U)<=(gE.length:U)+0;omega
 .show(gE.length:U)<=(gE.length:U)+0;omega
 .show(gN.length:U)<=(hN.length:U)+0;omega
 .show(gE.length:U)<=(hE.length:U)+0;omega
 .show(gN.length:U)<=(0:U)+8;omega
 .show(gE.length:U)<=(0:U)+8;omega
 .show(hN.length:U)<=(0:U)+8;omega
 .show(hE.length:U)<=(0:U)+8;omega
 .exact Ds h.pn
 .exact Ds h.pe
 .refine⟨(fJ _).symm,λ i x hx=>?_⟩;have hx:u[i]? =O x:=hx;rcases N with rfl|⟨y,A,D,F,hm,rfl⟩
  .cases hx
  match i,hx with
  |0,hx=>
   cases hx;have:=arq hm (j:=((0:R):U));exact this
  |i+1,hx=>cases hx
 .show(0:U)<=(u.length:U)+0;omega
 .show(u.length:U)<=(0:U)+1;omega
 .show Xc u gN gE;intro i x hx a b;rcases N with rfl|⟨y,A,D,F,hm,rfl⟩
  .cases hx
  match i,hx with
  |0,hx=>
   cases hx;exact⟨λ e=>by cases e;exact Ds hm.pn,λ e=>by cases e;exact Ds hm.pe⟩
  |i+1,hx=>cases hx
 .show(gN.length:U)<=(gN.length:U)+0;omega
 .show(gE.length:U)<=(gE.length:U)+0;omega
 .show(u.length:U)<=(1:U)+0;omega
end
section
variable{v:au}
variable{P:aA}{ng n:R}{aae:bg}
structure GE (P:aA) (ng:R) (bef:oh) (H0:aj) (es:vM) (rs bM:bG) (S:jf):Prop where
 e:S.es=es
 p:∀a∈S.bM,a∈bM
 r:∀r∈S.rs,r.1∈rs
 v:∀r∈S.rs,dY P ng r.2.1 H0.ah.get r.2.2.1=some r.2.2.2
 s:∀r∈S.rs,∀e∈es,tb (bef e.1) r.1=true\/dY P ng r.2.1 e.2.get r.2.2.1=some r.2.2.2
def xf(P:aA)(ng:R)(aae:bg)(n:R)(H0:aj)(aag:dM)(bef:oh)(l:dM)(i:R)(es:vM)(rs bM:bG)(T:aM)(H:aj)(F:ID):Prop:=∀S,GE P ng bef H0 es rs bM S->∃u y A,nV P ng aae n H0.ah aag bef l i S T H=O (u,y,A)/\(∀r∈u.rs,dY P ng r.2.1 H0.ah.get r.2.2.1=O r.2.2.2)/\(∀r∈u.rs,∀e∈u.es,tb (bef e.1) r.1=V\/dY P ng r.2.1 e.2.get r.2.2.1=O r.2.2.2)/\F y A
variable{H0 H:aj}{aag l:dM}{bef:oh}{i:R}{es:vM}{rs bM:bG}{T:aM}{F:ID}{o:Oper}{r:xe}
def aDT(h:F T H):xf P ng aae n H0 aag bef [] i es rs bM T H F:=λ S g=>⟨S,T,H,Q,g.v,λ x hx e he=>g.s x hx e (g.e▸he),h⟩
theorem N4{S S':jf}{Xqq:jf->aM->aj->Prop}(A:cn aag T o=V)(F:bR P ng aae T H o.op=O r)(D:CN P ng (bef i) i H0.ah T H o.op S r=O S')(h:∃y u H',nV P ng aae n H0.ah aag bef l (i+1) S' (dZ n T o.dst r.1) r.2=O (y,u,H')/\Xqq y u H'):∃y u H',nV P ng aae n H0.ah aag bef (o::l) i S T H=O (y,u,H')/\Xqq y u H':=by grind[nV]
def awB{o:Op}(h:dY P ng T g o=X):mX P ng T g o v=false:=by rw[mX,h]
def aAF{o:Op}(h:dY P ng T g o=O v):mX P ng T g o v=true:=by simp[mX,h,JK]
def JY(A:dK o.op=0)(u:cn aag T o=V)(y:bR P ng aae T H o.op=O r)(h:xf P ng aae n H0 aag bef l (i+1) es rs bM (dZ n T o.dst r.1) r.2 F):xf P ng aae n H0 aag bef (o::l) i es rs bM T H F:=λ S g=>N4 u y (by unfold CN;rw[A];rfl) (h S ⟨g.e,g.p,g.r,g.v,g.s⟩)
theorem adG(J:dK o.op=1)(K:cn aag T o=V)(D:bR P ng aae T H0 o.op=O r)(M:∀u q,H0.ah.get u=O q->H.ah.get u=O q)(hn:dY P ng T (λ u=>match H0.ah.get u with|none=>H.ah.get u|some _=>X) o.op=X)(h:xf P ng aae n H0 aag bef l (i+1) [] (i::rs) bM (dZ n T o.dst r.1) H F):xf P ng aae n H0 aag bef (o::l) i [] rs bM T H F:=λ S g=>by
 have y:dY P ng T H0.ah.get o.op=O r.1:=by rw[bR]at D;unfold iG at D;grind
 have A:bR P ng aae T H o.op=O (r.1,H):=by rw[bR,J,BF M y];rfl
 refine N4 (S':=wX i T o.op S r.1) K A ?_ (h _ ⟨g.e,g.p,λ x hx=>?_,λ x hx=>?_,λ x hx e he=>bk⟩)
 .unfold CN;rw[J];have:FI P ng (bef i) H0.ah S T H o.op r.1=false:=by unfold FI;exact g.e▸(fP _ (awB hn)).trans (Bool.and_false _)
  simp[this]
 .rcases cg.1 (hx)with rfl|hx
  .exact dJ ..
  exact cV _ (g.r x hx)
 rcases cg.1 (hx)with rfl|hx
 .exact y
 exact g.v x hx
theorem ayx{q:R}{Xqq:kH}(N:dK o.op=1)(J:cn aag T o=true)(y:bR P ng aae T H o.op=O r)(K:dY P ng T (λ u=>match Xqq.get u with|none=>H.ah.get u|some _=>X) o.op=O r.1)(D:(bM.all λ k=>Nat.ble k q||tb (bef i) k)=true)(h:xf P ng aae n H0 aag bef l (i+1) ((q,Xqq)::es) rs (i::bM) (dZ n T o.dst r.1) H F):xf P ng aae n H0 aag bef (o::l) i ((q,Xqq)::es) rs bM T H F:=λ S g=>by
 have Y:r.2=H:=by rw[bR]at y;unfold iG at y;grind
 refine N4 (S':=Bn i S) J y ?_ ((Y▸h) _ ⟨g.e,λ a A=>?_,g.r,g.v,g.s⟩)
 .unfold CN;rw[N];have:FI P ng (bef i) H0.ah S T H o.op r.1=true:=by unfold FI;rw[g.e];refine(fP _ (aAF K)).trans ((adY _).trans ?_);rw[iw]at D⊢;exact λ k M=>D k (g.p k M)
  simp[this]
 rcases cg.1 (A)with rfl|A
 .exact dJ ..
 exact cV _ (g.p a A)
def ak6(D:dK o.op=2)(y:cn aag T o=V)(A:bR P ng aae T H o.op=O r)(h:xf P ng aae n H0 aag bef l (i+1) es rs (i::bM) (dZ n T o.dst r.1) r.2 F):xf P ng aae n H0 aag bef (o::l) i es rs bM T H F:=λ S g=>by
 refine N4 (S':=Bn i S) y A (by unfold CN;rw[D];rfl) (h _ ⟨g.e,λ a u=>?_,g.r,g.v,g.s⟩);rcases cg.1 (u)with rfl|u
 .exact dJ ..
 exact cV _ (g.p a u)
def al7(M:dK o.op=3)(D:cn aag T o=V)(K:bR P ng aae T H o.op=O r)(y:(∀u q,H0.ah.get u=O q->r.2.ah.get u=O q)\/qw (bef i) rs=V)(J:qw (bef i) bM=V)(h:xf P ng aae n H0 aag bef l (i+1) ((i,r.2.ah)::es) rs (i::bM) (dZ n T o.dst r.1) r.2 F):xf P ng aae n H0 aag bef (o::l) i es rs bM T H F:=λ S g=>by
 refine N4 (S':=D2 i S _) D K ?_ (h _ ⟨by show(i,r.2.ah)::S.es=_;rw[g.e],λ a A=>?_,g.r,g.v,λ x hx e he=>?_⟩);.unfold CN;rw[M];simp[tW.2 λ a A=>tW.1 J a (g.p a A)]
 .rcases cg.1 (A)with rfl|A
  .exact dJ ..
  exact cV _ (g.p a A)
 rcases cg.1 he with rfl|he
 .rcases y with y|y
  .exact .inr (BF y (g.v x hx))
  exact .inl (tW.1 y _ (g.r x hx))
 exact g.s x hx e he
theorem aEw{id:R}{aag:dV}(F:tm aag=true){T:aM}{H:aj}{Qqq:nv}(h:xf P ng aae n H (kz aag).toList (eA (kz aag)) (kz aag).toList 0 [] [] [] T H λ u A=>(∀t,ee aag.toList t=true->ai u t=ai T t)->Qqq .normal u A):bB P ng aae n (.region id aag true) T H Qqq:=by
 obtain⟨S,u,A,h1,h2,J,M⟩:=h ⟨[],[],[]⟩ ⟨Q,λ a y=>bk,λ a y=>bk,λ a y=>bk,λ a y=>bk⟩
 have D:kK P ng aae n aag T H true=O (u,A):=by
  rw[MT F,h1,pQ]
  have:∀rs,(∀r∈rs,dY P ng r.2.1 H.ah.get r.2.2.1=O r.2.2.2)->(∀r∈rs,∀e∈S.es,tb (eA (kz aag) e.1) r.1=true\/dY P ng r.2.1 e.2.get r.2.2.1=O r.2.2.2)->wK P ng (eA (kz aag)) H.ah S.es rs=true:=by
   intro rs;induction rs with
   |nil=>intro _ _;rfl
   |cons r rs K=>grind[MH,V6]
  rw[this _ h2 J]
 grind[lR,ZJ]
end
section
variable{d:TypeDesc}{i:TypeInfo}{k:R}
variable{P:aA}{H K K':aj}{I J:Im}{u v off n:R}{cs new:aF}{t:bj}{g:fE}
def HP(u:P.info? t=O i)(h:cs.length=i.size):dD P H t (.ptr v off) (.agg cs)=write H v off cs:=by simp[dD,u,au.cells,h,qi]
theorem CA(y:P.underlying t=O d)(A:xm d=V)(u:P.info? t=O i)(h:aQ g v off i.size=O cs):cr P g t (.ptr v off)=O (.agg cs):=by grind[cr]
theorem G9{c:au}(y:P.underlying t=O d)(A:xm d=W)(u:P.info? t=O i)(h:aQ g v off 1=O [c]):cr P g t (.ptr v off)=O c:=by grind[cr]
def vV{s:bj}{fs:Array Field}{fd:Field}{j:TypeInfo}{f o:R}(u:P.underlying s=O (.struct fs))(D:fs.toList[f]? =O fd)(A:P.info? fd.type=O j)(h0:Nat.beq j.size 0=W)(y:fd.offset=k):fO P s (.ptr v o) f=O (.ptr v (o+k)):=by subst y;simp[fO,u,D,A,h0]
structure dk (K:aj) (u:R) (cs:aF):Prop where
 own:qJ K u ⟨cs,u,0,true,false,1⟩
 aI:K.aV.get u=some [u]
theorem dk.alloc(H:aj)(cs:aF):dk (alloc H cs V 1) H.ae cs:=⟨mK H cs V 1,by grind[Go.Abs.alloc,Tr.tA]⟩
def dk.keep(b:dk K u cs)(fr:Fr X K K'):dk K' u cs:=⟨b.own.keep fr aw,fr.aV _ _ b.aI aw⟩
structure Ba (u:R) (K K':aj):Prop where
 o:∀v,v≠u->K'.ah.get v=K.ah.get v
 f:K'.aV=K.aV
 n:K'.ae=K.ae
def dk.qW(b:dk K u cs)(h:Ba v K K')(ne:u≠v):dk K' u cs:=⟨⟨(h.o u ne)▸b.own.row,Q,h.f▸b.own.mem⟩,h.f▸b.aI⟩
def dk.lt(b:dk K u cs)(g:Good K):u<K.ae:=(g.wf u _ b.own.row).1
def dk.rd(b:dk K u cs)(h:off+n<=cs.length):aQ K.ah.get u off n=O ((cs.drop off).take n):=b.own.rd h
theorem dk.write(g:Good K)(b:dk K u cs)(A:off+new.length<=cs.length)(y:new.all au.dm=V):∃K',write K u off new=O K'/\dk K' u (eV cs off new)/\Ba u K K'/\Good K':=by
 obtain⟨K',h1,h2,M,J,h5⟩:=nK g b.own A y;have F:=b.aI;have D:Ba u K K':=by unfold Go.Abs.write at h1;rw[b.own.row]at h1;simp[F,y,cD A]at h1;cases h1;refine⟨λ x hx=>?_,Q,Q⟩;grind[Tr.uW,Gb]
 exact⟨K',h1,⟨h2,D.f▸F⟩,D,h5⟩
def Fr.yJ(f:Fr X H K)(g:Good H)(h:Ba u K K')(hu:H.ae<=u):Fr X H K':=⟨λ x r e _=>(h.o x (by have:=(g.wf x r e).1;omega))▸f.row x r e aw,λ x m e _=>h.f▸f.aV x m e aw,h.n▸f.ae⟩
def imO(y:bO J K.ah.get)(h:Ba u K K')(hu:J u=X):bO J K'.ah.get:=λ x r e=>by rw[h.o x (λ ex=>by rw[ex,hu]at e;cases e)];exact y x r e
def LP(u:bO J K.ah.get)(fr:Fr X K K'):bO J K'.ah.get:=λ x r e=>fr.row x r (u x r e) aw
def aaw(g:Good K)(y:bO J K.ah.get)(hu:K.ae<=u):J u=none:=by
 cases e:J u;.rfl
 rename_i r;have:=(g.wf u r (y u r e)).1;omega
theorem Ru(hu:u<K.ae)(h:J u=none):eh J K K' u=none:=by grind[eh]
structure Ca (K:aj) (J:Im) (sz n:R) (s:au) (cs:aF) (fm:bA) (mem:bG):Prop where
 sl:cm K sz n s cs fm
 aI:∀f,fm=some f->K.aV.get f=some mem
 im:∀x∈mem,J x=none
 own:∀v o m l,s=.slice v o m l->v∈mem
 fin:∀f,fm=some f->f∈mem
variable{sz:R}{s:au}{fm:bA}{mem:bG}
def Ca.keep(h:Ca K J sz n s cs fm mem)(fr:Fr X K K')(u:∀x∈mem,J x=X->I x=X):Ca K' I sz n s cs fm mem:=⟨h.sl.nQ fr,λ f e=>fr.aV _ _ (h.aI f e) aw,λ x hx=>u x hx (h.im x hx),h.own,h.fin⟩
def Ca.qW(h:Ca K J sz n s cs fm mem)(k:Ba u K K')(hu:u∉mem):Ca K' J sz n s cs fm mem:=by
 refine⟨?_,λ f e=>k.f▸h.aI f e,h.im,h.own,h.fin⟩;obtain⟨h1,h2|⟨x,q,rfl,o,D,A,h5,y⟩⟩:=h.sl;.exact⟨h1,.inl h2⟩
 exact⟨h1,.inr ⟨x,q,Q,⟨(k.o x (λ e=>hu (e▸h.own _ _ _ _ Q)))▸o.row,o.ro,k.f▸o.mem⟩,D,A,h5,y⟩⟩
theorem aqn{r:Row}(h:write K v off new=O K')(u:K.ah.get v=O r)(hm:K.aV.get r.aI=O mem):(∀y,y≠v->y∉mem->K'.ah.get y=K.ah.get y)/\K'.aV=K.aV/\K'.ae=K.ae:=by grind[Go.Abs.write,Tr.uW,Gb]
theorem aGy(g:Good K){bytes:R}(ab:0<sz)(P:Ca K J sz n s cs fm mem)(hJ:bO J K.ah.get)(hk:new.length=k*sz)(am:0<k)(N:new.all au.dm=V)(hb:(n+k)*bytes<=lg)(af:n+k<=lg):
 ∃s' K' u F,gM K sz bytes s k new=O (s',K')/\Ca K' J sz (n+k) s' (cs++new) u F/\Good K'/\(∀y,y<K.ae->y∉mem->K'.ah.get y=K.ah.get y)/\(∀y∈F,y∈mem\/K.ae<=y)/\(u=fm\/u=O K.ae)/\(∀x m,K.aV.get x=O m->O x≠fm->K'.aV.get x=O m)/\K.ae<=K'.ae:=by
 obtain⟨s',K',u,h1,h2,h3,h4,h5⟩:=yp (bytes:=bytes) g ab P.sl hk N hb af;have ac:J K.ae=none:=aaw g hJ (aZ _);have M:∀{T:kH} {x y:R} {r:oR},y<x->(T.set x r).get y=T.get y:=λ h=>Tr.uW _ (Nat.ne_of_gt h) _
 obtain⟨q1,⟨rfl,rfl,rfl⟩|⟨x,r,rfl,o,ak,al,ai,rfl⟩⟩:=P.sl
 .have aa:gM K sz bytes .aq k new=O (.slice K.ae 0 k none,Go.Abs.alloc K new W sz):=by grind[List.eq_nil_of_length_eq_zero,gM,lenOf,jy,er,Pb,Nat.ble_eq_true_of_le]
  rw[aa]at h1;cases h1
  have Y:u=O K.ae:=by
   obtain⟨_,⟨e,_⟩|⟨x,r,e,o,_,_,_,e2⟩⟩:=h2;.cases e
   simp only[au.slice.injEq]at e;obtain⟨rfl,_⟩:=e;have:=o.row;grind[Go.Abs.alloc,Tr.tA]
  subst Y;refine⟨_,_,_,[K.ae],aa,⟨h2,λ f e=>?_,λ x hx=>?_,λ v o m l e=>?_,λ f e=>by grind[aaS]⟩,h4,λ y A _=>M A,λ y A=>?_,.inr Q,λ x m hx _=>h3.aV x m hx aw,h3.ae⟩;.grind[Go.Abs.alloc,Tr.tA]
  .grind[aaS]
  .grind[aaS]
  grind[aaS]
 .have D:=P.aI _ Q;have hx:=P.own _ _ _ _ Q;have ag:=(g.wf x r o.row).1;have Z:=h1
  have ad:∀{y:R} {q:Row},s'=.slice y 0 (n+k) none->K'.ah.get y=O q->u=O q.aI:=λ e e2=>by
   obtain⟨_,⟨S,_⟩|⟨z,q',S,o',_,_,_,e3⟩⟩:=h2;.rw[e]at S;cases S
   rw[e]at S;cases S;rw[o'.row]at e2;cases e2;exact e3
  unfold gM at h1;simp only[lenOf]at h1;split at h1
  .rename_i sl ex c hs hc;cases hs;split at h1
   .split at h1
    .rename_i hw;cases h1;obtain⟨w1,w2,w3⟩:=aqn hw o.row D
     have Y:u=O r.aI:=by
      obtain⟨_,⟨S,_⟩|⟨z,q',S,o',_,_,_,e3⟩⟩:=h2;.cases S
      rcases h5 with h5|⟨f,h5,h6⟩
      .exact h5
      have:=(h4.wf z q' o'.row).2;rw[h6]at e3;cases e3;omega
     subst Y;exact⟨_,_,_,mem,Z,⟨h2,λ f e=>by cases e;rw[w2];exact D,P.im,λ v o m l e=>(by cases e;exact hx),P.fin⟩,h4,λ y A hm=>w1 y (λ e=>hm (e▸hx)) hm,λ y A=>.inl A,.inl Q,λ x m hx _=>by rw[w2];exact hx,by rw[w3];exact aZ _⟩
    cases h1
   split at h1
   .split at h1
    .cases h1;have Y:=ad Q (Tr.tA _ _ _);subst Y;refine⟨_,_,_,[K.ae],Z,⟨h2,λ f e=>?_,λ x hx=>?_,λ v o m l e=>?_,λ f e=>by grind[aaS]⟩,h4,λ y A _=>M A,λ y A=>?_,.inr Q,λ x m hx ne=>h3.aV x m hx ne,h3.ae⟩;.grind[Go.Abs.alloc,Tr.tA]
     .grind[aaS]
     .grind[aaS]
     grind[aaS]
    split at h1
    .rename_i hh;rw[o.row]at hh;cases hh;simp only[o.ro,N,D]at h1;cases h1;have Y:=ad Q (Tr.tA _ _ _);subst Y;refine⟨_,_,_,K.ae::mem,Z,⟨h2,λ f e=>?_,λ y A=>?_,λ v o m l e=>?_,λ f e=>cV _ (P.fin f e)⟩,h4,λ y A hm=>?_,λ y A=>?_,.inl Q,λ x m hx ne=>h3.aV x m hx ne,h3.ae⟩;.cases e;exact Tr.tA _ _ _
     .rcases cg.1 A with rfl|A
      .exact ac
      exact P.im y A
     .cases e;exact dJ ..
     .grind[Lv]
     grind
    cases h1
   cases h1
  cases h1
end
section
variable{g:fE}{H:aj}{u off o:R}{cs:aF}
def qi9:Tryz.prog.info? 9=O Tryz.t9:=aH
def Xf:Tryz.prog.info? 22=O Tryz.t22:=aH
def Np:Tryz.prog.info? 23=O Tryz.t23:=aH
def al2:Tryz.prog.info? 24=O Tryz.t24:=aH
def Vy:Tryz.prog.info? 25=O Tryz.t25:=aH
def Lx:Tryz.prog.info? 27=O Tryz.t27:=aH
def aov:Tryz.prog.info? 28=O Tryz.t28:=aH
def ayu:Tryz.prog.info? 30=O Tryz.t30:=aH
def agq:Tryz.prog.info? 31=O Tryz.t31:=aH
def akf:Tryz.prog.info? 34=O Tryz.t34:=aH
def Zp:Tryz.prog.info? 53=O Tryz.t53:=aH
def aJK:Tryz.prog.info? 59=O Tryz.t59:=aH
def alM:Tryz.prog.info? 61=O Tryz.t61:=aH
def XL:Tryz.prog.info? 64=O Tryz.t64:=aH
def Vm:Tryz.prog.info? 66=O Tryz.t66:=aH
def Z4:Tryz.prog.info? 68=O Tryz.t68:=aH
def aCg(h:cs.length=5):dD af H 27 (.ptr u off) (.agg cs)=write H u off cs:=HP Lx h
theorem Aj(h:aQ g u off 2=O cs):cr af g 34 (.ptr u off)=O (.agg cs):=CA atN Q akf h
def LH(h:cs.length=2):dD af H 34 (.ptr u off) (.agg cs)=write H u off cs:=HP akf h
def Lw(h:aQ g u off 2=O cs):cr af g 53 (.ptr u off)=O (.agg cs):=CA Tryz.underlying53 Q Zp h
def Po(h:cs.length=2):dD af H 53 (.ptr u off) (.agg cs)=write H u off cs:=HP Zp h
def azN(h:aQ g u off 2=O cs):cr af g 61 (.ptr u off)=O (.agg cs):=CA Tryz.underlying61 Q alM h
def ayW(h:aQ g u off 2=O cs):cr af g 64 (.ptr u off)=O (.agg cs):=CA Tryz.underlying64 Q XL h
def adL(h:cs.length=2):dD af H 64 (.ptr u off) (.agg cs)=write H u off cs:=HP XL h
def aHZ(h:aQ g u off 9=O cs):cr af g 66 (.ptr u off)=O (.agg cs):=CA Tryz.underlying66 Q Vm h
def ai9(h:cs.length=9):dD af H 66 (.ptr u off) (.agg cs)=write H u off cs:=HP Vm h
def awC(h:aQ g u off 25=O cs):cr af g 68 (.ptr u off)=O (.agg cs):=CA adf Q Z4 h
def aCv(h:cs.length=25):dD af H 68 (.ptr u off) (.agg cs)=write H u off cs:=HP Z4 h
def aty(h:aQ g u off 12=O cs):cr af g 30 (.ptr u off)=O (.agg cs):=CA aeK Q ayu h
def azW(h:aQ g u off 10=O cs):cr af g 28 (.ptr u off)=O (.agg cs):=CA aeY Q aov h
def SD{c:au}(h:aQ g u off 1=O [c]):cr af g 22 (.ptr u off)=O c:=G9 adq Q Xf h
def Fg{c:au}(h:aQ g u off 1=O [c]):cr af g 23 (.ptr u off)=O c:=G9 adi Q Np h
def aiH{c:au}(h:aQ g u off 1=O [c]):cr af g 24 (.ptr u off)=O c:=G9 atO Q al2 h
def aAp{c:au}(h:aQ g u off 1=O [c]):cr af g 25 (.ptr u off)=O c:=G9 Tryz.underlying25 Q Vy h
def aiK{c:au}(h:aQ g u off 1=O [c]):cr af g 31 (.ptr u off)=O c:=G9 adp Q agq h
def apx:fO af 27 (.ptr u o) 0=O (.ptr u (o+0)):=vV abt Q Np Q Q
def afV:fO af 27 (.ptr u o) 1=O (.ptr u (o+1)):=vV abt Q al2 Q Q
def aoB:fO af 27 (.ptr u o) 2=O (.ptr u (o+2)):=vV abt Q Vy Q Q
def anv:fO af 27 (.ptr u o) 3=O (.ptr u (o+3)):=vV abt Q Np Q Q
def Tx:fO af 27 (.ptr u o) 4=O (.ptr u (o+4)):=vV abt Q Np Q Q
def anI:fO af 34 (.ptr u o) 0=O (.ptr u (o+0)):=vV atN Q agq Q Q
def aJL:fO af 59 (.ptr u o) 0=O (.ptr u (o+0)):=vV Tryz.underlying59 Q Zp Q Q
def asY:fO af 68 (.ptr u o) 2=O (.ptr u (o+6)):=vV adf Q aJK Q Q
def aFW:fO af 68 (.ptr u o) 3=O (.ptr u (o+11)):=vV adf Q alM Q Q
def aA2:fO af 68 (.ptr u o) 4=O (.ptr u (o+13)):=vV adf Q XL Q Q
def asu:fO af 68 (.ptr u o) 6=O (.ptr u (o+16)):=vV adf Q Vm Q Q
def ajd:fO af 30 (.ptr u o) 0=O (.ptr u (o+0)):=vV aeK Q Xf Q Q
def amG:fO af 30 (.ptr u o) 1=O (.ptr u (o+1)):=vV aeK Q Xf Q Q
def aav:fO af 30 (.ptr u o) 2=O (.ptr u (o+2)):=vV aeK Q aov Q Q
def L9:aF:=[.aq,.aq,.int .u64 0,.aq,.aq]
def axX:fW af 27=O (.agg L9):=aH
def tu:aF:=[.aq,.aq]
def YN:fW af 34=O (.agg tu):=aH
def z53:aF:=[.aq,.aq]
def X0:fW af 53=O (.agg z53):=aH
def M9:aF:=[.aq,.aq]
def afi:fW af 64=O (.agg M9):=aH
def z66:aF:=[ao 0,.aq,.aq,.aq,.aq,.aq,.aq,ao 0,.aq]
def auS:fW af 66=O (.agg z66):=aH
def Lu:aF:=[.str [],.aq,.aq,.aq,ao 0,.aq,.aq,.aq,.aq,ao 0,.aq,.aq,.aq,.aq,.aq,.bool W,ao 0,.aq,.aq,.aq,.aq,.aq,.aq,ao 0,.aq]
def aph:fW af 68=O (.agg Lu):=aH
def aJl:mc af 34 (O [])=O (.agg [.aq,.aq]):=aH
def aiz{a b:au}:mc af 59 (O [(0,.agg [a,b])])=O (.agg [a,b,.aq,ao 0,.aq]):=aH
def ak3:mc af 66 (O [(0,ao 1)])=O (.agg [ao 1,.aq,.aq,.aq,.aq,.aq,.aq,ao 0,.aq]):=aH
def atF{a p q:au}:mc af 68 (O [(0,.str s),(1,.agg [a,b,.aq,ao 0,.aq]),(3,.agg [p,q]),(5,.bool V),(6,.agg [ao 1,.aq,.aq,.aq,.aq,.aq,.aq,ao 0,.aq])])=O (.agg [.str s,a,b,.aq,ao 0,.aq,.aq,.aq,.aq,ao 0,.aq,p,q,.aq,.aq,.bool V,ao 1,.aq,.aq,.aq,.aq,.aq,.aq,ao 0,.aq]):=aH
def aJa{a b c d:au}{w:R}:mc af 66 (O [(0,ao 5),(2,.agg [a,b]),(3,.agg [c,d,.aq,ao 0,.aq]),(1,.slice w 0 1 X)])=O (.agg [ao 5,.slice w 0 1 X,a,b,c,d,.aq,ao 0,.aq]):=aH
def aqB{w:R}:mc af 66 (O [(0,ao 2),(1,.slice w 0 1 X)])=O (.agg [ao 2,.slice w 0 1 X,.aq,.aq,.aq,.aq,.aq,ao 0,.aq]):=aH
def al9{M K J F D A y u c8:au}:oW af 63 1 (O [(0,.agg [M,K,J,F,D,A,y,u,c8])])=O ([M,K,J,F,D,A,y,u,c8],9,O 1):=aH
def aqt{c0 c1 c2 c3 c4 c5 c6 c7 c8 c9 c10 c11 c12 c13 c14 c15 c16 c17 c18 c19 c20 c21 c22 c23 c24:au}:oW af 35 1 (O [(0,.agg [c0,c1,c2,c3,c4,c5,c6,c7,c8,c9,c10,c11,c12,c13,c14,c15,c16,c17,c18,c19,c20,c21,c22,c23,c24])])=O ([c0,c1,c2,c3,c4,c5,c6,c7,c8,c9,c10,c11,c12,c13,c14,c15,c16,c17,c18,c19,c20,c21,c22,c23,c24],25,O 1):=aH
def aER{t:jo}:oW af 55 2 (O [(0,.str s),(1,.str t)])=O ([.str s,.str t],1,O 2):=aH
def aA8{s x:au}{new:aF}(A:lenOf x=O n)(D:er H.ah.get 25 n x=O new):iC af H [35,35] [s,x]=gM H 25 Tryz.t68.bytes s n new:=by obtain⟨z,y,u⟩:∃z,fW _ 68=O z/\z.cells.length=25:=⟨_,aph,Q⟩;have h1:Tryz.t68.size=25:=rfl;simp+decide [iC,Z4,y,u,h1,A,D]
end
section
variable{K:aj}{P:aA}{T:aM}{t:bj}{v:R}
variable{ng:R}
noncomputable def VA:Code:=match Tryz.f4.body with
 |O (.seq _ (.seq _ (.seq _ (.seq _ (.seq _ (.seq (.seq _ (.block _ (.loop (.seq _ (.seq _ (.seq (.block _ c) _)))))) _))))))=>c
 |_=>.skip
def Zc:Code:=match VA with
 |.seq _ (.seq _ (.seq _ (.seq c _)))=>c
 |_=>.skip
def PX:dV:=match Zc with
 |.region _ u _=>u
 |_=> #[]
def axP:∃id,Zc=.region id PX true:=⟨_,Q⟩
def atT:tm PX=true:=aH
abbrev lit(s:String):eN:=.const (.string s.toUTF8)
def azn:∃p0 p1 p2 p3 p4 p5 p6 p7 p8 p9 pa pb pc pd x0 x1 x2 x3 x4 x5 x6 x7 x8 x9 xa xb xc xd y0 y1 y2 Z Y S P N M K J F D A y sb z0 u,(kz PX).toList=[
 ⟨O 85,.load 53 (.tmp 10),y0,p0,x0,X⟩,⟨O 86,.build 59 #[(0,.tmp 85)],y1,p1,x1,X⟩,⟨O 87,.load 53 (.tmp 10),y2,p2,x2,X⟩,⟨O 88,.fieldAddr 27 (.tmp 9) 2,Z,p3,x3,X⟩,⟨O 89,.load 25 (.tmp 88),Y,p4,x4,X⟩,
 ⟨O 90,.call {callee:=.value (.func 10),args:= #[.tmp 87,.tmp 89],argTypes:= #[53,25]},S,p5,x5,X⟩,⟨O 81,.buildSlice 55 2 #[(0,.const (.string y)),(1,.const (.string sb))],P,p6,x6,X⟩,⟨O 82,.move (.tmp 8),N,p7,x7,X⟩,⟨O 83,.indexAddr 55 (.tmp 81) (.tmp 82),M,p8,x8,X⟩,⟨O 84,.load 9 (.tmp 83),K,p9,x9,X⟩,
 ⟨O 91,.build 66 #[(0,z0)],J,pa,xa,X⟩,⟨O 92,.build 68 #[(0,.tmp 84),(1,.tmp 86),(3,.tmp 90),(5,u),(6,.tmp 91)],F,pb,xb,X⟩,⟨O 11,.alloc 68,D,pc,xc,X⟩,⟨X,.store 68 (.tmp 11) (.tmp 92),A,pd,xd,X⟩]/\y.data.toList=[97]/\sb.data.toList=[98]/\z0=.const (.int .i64 1)/\u=.const (.bool V):=by
 refine⟨_,_,_,_,_,_,_,_,_,_,_,_,_,_,_,_,_,_,_,_,_,_,_,_,_,_,_,_,_,_,_,_,_,_,_,_,_,_,_,_,_,_,_,_,_,_,Q,?_,?_,?_,?_⟩
 all_goals rfl
theorem abq(h:g v=none):cr P g t (.ptr v off)=none:=by grind[cr,aQ]
def SR{x:eN}:dY P ng T g (.load t x)=wk P g t (cy ng T x):=rfl
def aF5{u:bg}{l:aF}{H:aj}:eL af u 10 l H=u 10 l H:=rfl
abbrev yH(i:R):jo:=if i=0 then[97]else[98]
def aIC(u:i<2):iL af 55 (.slice v 0 2 X) (aW i)=O (.ptr v i):=by
 match i,u with
 |0,_=>rfl
 |1,_=>rfl
abbrev Oe(nm:jo)(gn ge kn ke:au):aF:=[.str nm,gn,ge,.aq,ao 0,.aq,.aq,.aq,.aq,ao 0,.aq,kn,ke,.aq,.aq,.bool V,ao 1,.aq,.aq,.aq,.aq,.aq,.aq,ao 0,.aq]
def aGd{Xqq:kH}{u:R}{H:aj}(h:Xqq.get u=X):aQ (λ u=>match Xqq.get u with|X=>H.ah.get u|O _=>X) u off n=aQ H.ah.get u off n:=by simp[aQ,h]
def aHA{K':aj}{u:aF}{ex:Bool}(h:alloc K u ex sz=K')(g:Good K):Fr X K K':=h▸iv g u ex sz
theorem ave{y:aj}{Qqq:nv}(hi:i<2)(g:Good K)(t8:ai T 8=.int .i64 (gu i))(t9:ai T 9=.ptr u9 0)(A:ai T 10=.ptr u10 0)
 (b9:dk K u9 [xa,xb,.int .u64 18446744073709551615,xc,xd]) (ak:dk K u10 [gn,ge]) (ad:bZ ng 10 [.agg [gn,ge],.int .u64 18446744073709551615] K=O (.agg [kn,ke],y)) (N:Good y) (f6:Fr none K y) (h1:gn.dm=V) (h2:ge.dm=V) (h3:kn.dm=V) (h4:ke.dm=V)
 (hQ:∀T' P u,(∀t,ee PX.toList t=V->ai T' t=ai T t)->ai T' 11=.ptr u 0->dk P u (Oe (yH i) gn ge kn ke)->Good P->Fr none y P->y.ae<=u->Qqq .normal T' P):bB af ng (bZ ng) 150 Zc T K Qqq:=by
 obtain⟨id,hg⟩:=axP;rw[hg];refine aEw atT ?_;obtain⟨p0,p1,p2,p3,p4,p5,p6,p7,p8,p9,pa,pb,pc,pd,x0,x1,x2,x3,x4,x5,x6,x7,x8,x9,ao,an,am,al,y0,y1,y2,y3,y4,y5,y6,y7,y8,y9,ya,yb,yc,yd,sa,sb,z0,z1,hl,Y,S,rfl,rfl⟩:=azn;have G6:=ak.rd (off:=0) (n:=2) (by simp);have r9:=b9.rd (off:=0+2) (n:=1) (by simp);have M:cr af K.ah.get 53 (.ptr u10 0)=O (.agg [gn,ge]):=Lw G6;have D:∀u q,K.ah.get u=O q->K.ah.get u=O q:=λ _ _ e=>e
 have Z:∀u q,K.ah.get u=O q->y.ah.get u=O q:=λ u q e=>f6.row u q e (by simp)
 have f7:=iv N [.str [97],.str [98]] V 1;have g7:=jb N [.str [97],.str [98]] V 1;have b7:=dk.alloc y [.str [97],.str [98]];generalize F:alloc y [.str [97],.str [98]] V 1=K7 at*
 have n6:y.ah.get y.ae=none:=by
  cases e:y.ah.get y.ae;.rfl
  rename_i r;have:=(N.wf _ _ e).1;omega
 have J:aQ K7.ah.get y.ae i 1=O [.str (yH i)]:=by rw[b7.rd (by simp;omega)];grind
 have ln:cr af K7.ah.get 9 (.ptr y.ae i)=O (.str (yH i)):=G9 au7 Q qi9 J;have ab:∀l,(au.agg l).cells=l:=λ _=>rfl
 rw[hl];refine adG Q Q (r:=(.agg [gn,ge],K)) (by simp only[AB,A,M]) D (by simp only[SR,AB,A];grind[abq]) ?_;refine JY Q Q (by simp+decide only[AB,aiz];rfl) ?_;refine adG Q Q (r:=(.agg [gn,ge],K)) (by simp+decide only[AB,A,M]) D (by simp+decide only[SR,AB,A];grind[abq]) ?_;refine JY Q Q (by simp+decide only[AB,t9,aoB];rfl) ?_;refine adG Q Q (r:=(.int .u64 18446744073709551615,K)) (by simp+decide only[AB,aAp r9]) D (by simp+decide only[SR,AB];grind[abq]) ?_;refine al7 Q Q (r:=(.agg [kn,ke],y)) (by simp+decide only[AB,mG,ou,aF5,ad]) (.inl Z) Q ?_;refine ak6 Q Q (by simp+decide only[AB,Y,S,aER,F];rfl) ?_;refine JY Q Q (by simp+decide only[AB,t8];rfl) ?_;refine JY Q Q (by simp+decide only[AB,aIC hi];rfl) ?_;refine ayx Q Q (r:=(.str (yH i),K7)) (by simp+decide only[AB,ln]) (by simp+decide only[SR,AB];exact G9 au7 Q qi9 ((aGd n6).trans J)) (by kernel_rfl) ?_;refine JY Q Q (by simp+decide only[AB,ak3];rfl) ?_;refine JY Q Q (by simp+decide only[AB,atF];rfl) ?_;have f8:=iv g7 Lu V 1;have g8:=jb g7 Lu V 1;have b8:=dk.alloc K7 Lu;generalize ac:alloc K7 Lu V 1=K8 at*;obtain⟨K9,w1,ag,o9,g9⟩:=b8.write g8 (off:=0) (new:=Oe (yH i) gn ge kn ke) (aZ 25) (by simp only[ny,h1,h2,h3,h4];rfl);have s9:dD af K8 68 (.ptr K7.ae 0) (.agg (Oe (yH i) gn ge kn ke))=O K9:=by rw[aCv Q];exact w1
 refine ak6 Q Q (by simp+decide only[AB,aph,ab,ac];rfl) ?_;refine al7 Q Q (by simp+decide only[AB,s9];rfl) (.inr (by kernel_rfl)) (by kernel_rfl) ?_;refine aDT λ aa=>?_
 have hn:y.ae+1=K7.ae:=by rw[<-F];rfl
 refine hQ _ K9 K7.ae aa (by simp+decide only[AB]) ag g9 (((aHA F N).trans f8).yJ N o9 (by omega)) (by omega)
end
section
variable{T':aM}
variable{ng:R}{T:aM}{K:aj}{Qqq:nv}
def c15:Code:=match VA with
 |.seq _ (.seq _ c)=>c
 |_=>.skip
def c17:Code:=match c15 with
 |.seq _ (.seq _ c)=>c
 |_=>.skip
def c19:Code:=match c17 with
 |.seq _ (.seq _ c)=>c
 |_=>.skip
abbrev oU:au:=.int .u64 18446744073709551615
def qL(T T':aM):Prop:=ai T' 2=ai T 2/\ai T' 5=ai T 5/\ai T' 7=ai T 7/\ai T' 47=ai T 47/\ai T' 48=ai T 48
def qL.of{T:aM}{u:dM}(h:∀t,ee u t=V->ai T' t=ai T t)(h2:ee u 2=V)(h5:ee u 5=V)(D:ee u 7=V)(A:ee u 47=V)(y:ee u 48=V):qL T T':=⟨h 2 h2,h 5 h5,h 7 D,h 47 A,h 48 y⟩
theorem qL.trans{T T2:aM}(h:qL T T')(k:qL T' T2):qL T T2:=⟨k.1.trans h.1,k.2.1.trans h.2.1,k.2.2.1.trans h.2.2.1,k.2.2.2.1.trans h.2.2.2.1,k.2.2.2.2.trans h.2.2.2.2⟩
def awy {A : aF} {l1 N M J y S : R} {D F : au} (am : uw af 28 (.agg A) (aW i) = O (.agg [xa, xb, oU, xc, xd])) (t2 : ai T 2 = .ptr y 0) (t5 : ai T 5 = .ptr S 0) (ad : ai T 47 = .agg A) (ac : ai T 48 = aW i)
    (g : Good K) (b2 : dk K y tu) (b5 : dk K S [D, F]) (n1 : dh af 23 xa = O (aW l1)) (n2 : dh af 24 xb = O (aW N)) (n3 : dh af 23 xc = O (aW M)) (n4 : dh af 23 xd = O (aW J))
    (o1 : xa.dm = V) (o2 : xb.dm = V) (o3 : xc.dm = V) (o4 : xd.dm = V) (p1 : D.dm = V) (p2 : F.dm = V) (IU : y ≠ S)
    (P : ∀ T' u K1, Fr X K K1 → Ba y K1 u → Good u → ai T' 2 = .ptr y 0 → ai T' 3 = .aq → ai T' 4 = .bool W → dk u y [D, F] → Qqq .ret T' u)
    (al : l1 ≤ 3 → N ≤ 2 → M ≤ 3 → J ≤ 3 → ∀ T' u u9, qL T T' → ai T' 8 = aW i → ai T' 9 = .ptr u9 0 → dk u u9 [xa, xb, oU, xc, xd] → Fr X K u → Good u → K.ae ≤ u9 → bB af ng (bZ ng) 150 c15 T' u Qqq) :
    bB af ng (bZ ng) 150 VA T K Qqq := by
  have an : ∀ l, (au.agg l).cells = l := fun _ => rfl
  have f1 := iv g L9 V 1
  have g1 := jb g L9 V 1
  have b1 := dk.alloc K L9
  generalize ao : alloc K L9 V 1 = K1 at *
  obtain ⟨K2, w1, b9, q2, g2⟩ := b1.write g1 (off := 0) (new := [xa, xb, oU, xc, xd]) (aZ 5) (by simp only [ny, o1, o2, o3, o4]; rfl)
  have s2 : dD af K1 27 (.ptr K.ae 0) (.agg [xa, xb, oU, xc, xd]) = O K2 := by rw [aCg Q]; exact w1
  have f2 : Fr X K K2 := f1.yJ g q2 (aZ _)
  have b9 : dk K2 K.ae [xa, xb, oU, xc, xd] := b9
  have e9 : ∀ {k : R}, k < 5 → aQ K2.ah.get K.ae (0 + k) 1 = O (([xa, xb, oU, xc, xd].drop (0 + k)).take 1) := fun {k} h => b9.rd (aa : (0 + k) + 1 ≤ 5)
  have e0 : aQ K2.ah.get K.ae (0 + 0) 1 = O [xa] := e9 cB
  have e1 : aQ K2.ah.get K.ae (0 + 1) 1 = O [xb] := e9 cB
  have e3 : aQ K2.ah.get K.ae (0 + 3) 1 = O [xc] := e9 cB
  have e4 : aQ K2.ah.get K.ae (0 + 4) 1 = O [xd] := e9 cB
  refine aB (aS (H' := K2) (fun T => ai T 8 = aW i ∧ ai T 9 = .ptr K.ae 0) (zA ad ac am @axX an ao s2) ?_)
  rintro T1 ⟨a8, a9⟩ k1
  have ak : qL T T1 := qL.of k1 Q Q Q Q Q
  refine aB (aB (iK (H' := K2) (fun T => ai T 73 = .bool (!(decide (l1 ≤ 3) && decide (N ≤ 2) && decide (M ≤ 3) && decide (J ≤ 3)))) ?_ ?_))
  · have d3 : ∀ {a : R}, decide (gu a > 3) = !decide (a ≤ 3) := fun {a} => by
      by_cases h : a ≤ 3
      · rw [jR h, my gD]; rfl
      · rw [my h, jR gD]; rfl
    have d2 : ∀ {a : R}, decide (gu a > 2) = !decide (a ≤ 2) := fun {a} => by
      by_cases h : a ≤ 2
      · rw [jR h, my gD]; rfl
      · rw [my h, jR gD]; rfl
    by_cases h1 : l1 ≤ 3 <;> by_cases h2 : N ≤ 2 <;> by_cases Z : M ≤ 3 <;> by_cases Y : J ≤ 3 <;>
    · have v1 := d3 (a := l1)
      have v2 := d2 (a := N)
      have v3 := d3 (a := M)
      have v4 := d3 (a := J)
      simp only [h1, h2, Z, Y, adW, adX, ad1, apJ] at v1 v2 v3 v4
      (repeat ((first | apply fC (cf rfl) | apply jF rfl rfl rfl); simp +decide only [AB, a9, apx, afV, anv, Tx, Fg e0, aiH e1, Fg e3, Fg e4, n1, n2, n3, n4, v1, v2, v3, v4]; rfl))
      exact fX (by simp +decide only [AB, h1, h2, Z, Y]; rfl)
  intro T2 ab k2
  have ag : qL T1 T2 := qL.of k2 Q Q Q Q Q
  have kp := ak.trans ag
  refine eX (by rw [fQ, ab]) (fun h => ?_) (fun h => fZ ?_)
  · have ap : dk K2 y tu := b2.keep f2
    obtain ⟨K3, w2, b3, q3, g3⟩ := ap.write g2 (off := 0) (new := [D, F]) (aZ 2) (by simp only [ny, p1, p2]; rfl)
    have s3 : dD af K2 34 (.ptr y 0) (.agg [D, F]) = O K3 := by rw [LH Q]; exact w2
    have r5 : aQ K2.ah.get S 0 2 = O [D, F] := (b5.keep f2).rd (aZ 2)
    have a2 := kp.1.trans t2
    have a5 := kp.2.1.trans t5
    refine aB (aS (H' := K3) (fun T => ai T 3 = .aq ∧ ai T 4 = .bool W) (nP a2 a5 (Aj r5) s3) ?_)
    rintro T3 ⟨a3, a4⟩ k3
    exact iZ (P T3 K3 K2 f2 q3 g3 (aL k3 a2) a3 a4 b3)
  · simp only [apS, bq, ayK] at h
    obtain ⟨⟨⟨h1, h2⟩, Z⟩, Y⟩ := h
    exact al h1 h2 Z Y T2 K2 K.ae kp (aL k2 a8) (aL k2 a9) b9 f2 g2 (aZ _)
end
section
variable{a:aP}
variable{ng:R}{H K K':aj}{I J:Im}{u u2 u5:R}{sN sE sR:au}{tn te Rqq:aP}{cs new:aF}{fm:bA}{mem:bG}
structure LS (H:aj) (I:Im) (K:aj) (J:Im) (u2 u5:R) (sN sE:au) (tn te Rqq:aP) (sR:au) (cs:aF) (fm:bA) (mem:bG):Prop where
 g:Good K
 fr:Fr none H K
 iJ:bO I J
 jK:bO J K.ah.get
 b2:dk K u2 tu
 b5:dk K u5 [sN,sE]
 n2:J u2=none
 n5:J u5=none
 h2:H.ae<=u2
 h5:H.ae<=u5
 IU:u2≠u5
 rN:RP J (.sl tn none) sN
 rE:RP J (.sl te none) sE
 L:Ca K J 25 Rqq.length sR cs fm mem
 hm:∀y∈mem,H.ae<=y/\y<K.ae/\y≠u2/\y≠u5
 rR:cx J 25 Rqq cs
def LS.keep(s:LS H I K J u2 u5 sN sE tn te Rqq sR cs fm mem)(g:Good K')(fr:Fr X K K'):LS H I K' J u2 u5 sN sE tn te Rqq sR cs fm mem:=⟨g,s.fr.trans fr,s.iJ,LP s.jK fr,s.b2.keep fr,s.b5.keep fr,s.n2,s.n5,s.h2,s.h5,s.IU,s.rN,s.rE,s.L.keep fr λ _ _ h=>h,λ y u=>by have:=s.hm y u;have:=fr.ae;omega,s.rR⟩
theorem LS.data(s:LS H I K J u2 u5 sN sE tn te Rqq sR cs fm mem)(g:Good K')(fr:Fr X K K'):LS H I K' (eh J K K') u2 u5 sN sE tn te Rqq sR cs fm mem:=
 have A:=nw s.g s.jK
 ⟨g,s.fr.trans fr,λ u r e=>A u r (s.iJ u r e),TV s.jK fr,s.b2.keep fr,s.b5.keep fr,Ru (s.b2.lt s.g) s.n2,Ru (s.b5.lt s.g) s.n5,s.h2,s.h5,s.IU,fD A _ _ s.rN,fD A _ _ s.rE,s.L.keep fr λ x hx h=>Ru (s.hm x hx).2.1 h,λ y D=>by have:=s.hm y D;have:=fr.ae;omega,Ap A _ _ _ s.rR⟩
def LS.yJ(s:LS H I K J u2 u5 sN sE tn te Rqq sR cs fm mem)(g0:Good H)(g:Good K')(o:Ba u K K')(hu:H.ae<=u)(h1:u≠u2)(h2:u≠u5)(F:u∉mem)(D:J u=X):LS H I K' J u2 u5 sN sE tn te Rqq sR cs fm mem:=⟨g,s.fr.yJ g0 o hu,s.iJ,imO s.jK o D,s.b2.qW o h1.symm,s.b5.qW o h2.symm,s.n2,s.n5,s.h2,s.h5,s.IU,s.rN,s.rE,s.L.qW o F,λ y A=>o.n▸s.hm y A,s.rR⟩
theorem LS.app(s:LS H I K J u2 u5 sN sE tn te Rqq sR cs fm mem)(g0:Good H)(he:e.length=25)(hn:dq J e new)(hl:Rqq.length<=10):
 ∃D K' A mem',gM K 25 Tryz.t68.bytes sR 1 new=O (D,K')/\LS H I K' J u2 u5 sN sE tn te (Rqq++[e]) D (cs++new) A mem':=by
 have F:new.length=1*25:=by rw[wm hn,he]
 have Y:lg=1099511627776:=rfl;have Z:(Rqq.length+1)*Tryz.t68.bytes<=lg:=by have:=UL (aa:Rqq.length+1<=11) (cB:Tryz.t68.bytes<=1000);omega
 obtain⟨S,K',A,mem',h1,h2,P,h4,h5,h6,N,h8⟩:=aGy s.g cB s.L s.jK F cB (S8 (ρ:=ρ0) (Gq hn) (Io hn).2.2) Z aa;have nm:∀y,y<K.ae->(J y≠X\/y<H.ae\/y=u2\/y=u5)->K'.ah.get y=K.ah.get y:=λ y M hh=>h4 y M λ hm=>by have a:=s.hm y hm;have b:=s.L.im y hm;grind
 have u:∀x,(x<H.ae\/x=u2\/x=u5)->O x≠fm:=λ x hx e=>by have a:=s.hm x (s.L.fin x e.symm);grind
 have bx:∀{x:R} {c:aF},dk K x c->(x=u2\/x=u5)->dk K' x c:=λ {x c} b hx=>⟨⟨(nm x (b.lt s.g) (.inr (.inr hx)))▸b.own.row,Q,⟨_,N x _ b.aI (u x (.inr hx))⟩⟩,N x _ b.aI (u x (.inr hx))⟩
 refine⟨S,K',A,mem',h1,P,⟨λ x r e _=>?_,λ x m e _=>N x m (s.fr.aV x m e aw) (u x (.inl (g0.mem x m e).1)),fI s.fr.ae h8⟩,s.iJ,λ x r e=>?_,bx s.b2 (.inl Q),bx s.b5 (.inr Q),s.n2,s.n5,s.h2,s.h5,s.IU,s.rN,s.rE,?_,λ y M=>?_,?_⟩;.have hx:=(g0.wf x r e).1;have:=s.fr.ae;rw[nm x aa (.inr (.inl hx))];exact s.fr.row x r e aw
 .rw[nm x (s.g.wf x r (s.jK x r e)).1 (.inl (by rw[e];simp))];exact s.jK x r e
 .rw[kQ];exact h2
 .rcases h5 y M with h|h
  .have:=s.hm y h;omega
  have a:=s.b2.lt s.g;have b:=s.b5.lt s.g;have c:=s.fr.ae;refine⟨aa,?_,aa,aa⟩;obtain⟨_,⟨_,e,_⟩|⟨x,r,_,_,_,_,_,e⟩⟩:=h2.sl;.omega
  exact(P.mem _ _ (h2.aI _ e)).2 y M
 .refine M1 s.rR ?_;grind[qa,apz,C8]
theorem mD{es:aP}(h:RP I (.sl es X) b):b.dm=true:=C1 (ρ:=ρ0) (ZV h) Q
def Kt{b:aP}{c:au}(h:aJ ρ0 I (.agg [.sl a X,.sl b X]) c):∃x y,c=.agg [x,y]/\RP I (.sl a X) x/\RP I (.sl b X) y:=by obtain⟨_,bs,rfl,h⟩:=h;obtain⟨x,_,rfl,h1,h⟩:=bJ.1 h;obtain⟨y,_,rfl,h2,h⟩:=bJ.1 h;obtain rfl:=lX.1 h;exact⟨x,y,rfl,by simpa only[aJ]using h1,by simpa only[aJ]using h2⟩
def E6{b:aP}{x y:au}(h1:RP I (.sl a X) x)(h2:RP I (.sl b X) y):aJ ρ0 I (.agg [.sl a X,.sl b X]) (.agg [x,y]):=⟨Q,_,Q,bJ.2 ⟨_,_,Q,by simpa only[aJ]using h1,bJ.2 ⟨_,_,Q,by simpa only[aJ]using h2,by rw[bu]⟩⟩⟩
end
section
variable{ng:R}{T:aM}{H K K':aj}{I J:Im}{u u2 u5:R}{sN sE sR:au}{tn te Rqq:aP}{cs new:aF}{fm:bA}{mem:bG}{Qqq:nv}
def aDq{u:bg}{l:aF}{H:aj}:eL af u 9 l H=u 9 l H:=by simp only[eL,Tryz.func9];rfl
def ary{u:bg}{l:aF}{H:aj}:eL af u 11 l H=u 11 l H:=by simp only[eL,Tryz.func11];rfl
def anZ{u:bg}{l:aF}{H:aj}:eL af u 12 l H=u 12 l H:=by simp only[eL,Tryz.func12];rfl
structure Cj (H:aj) (J:Im) (u2 u5:R) (mem:bG) (u:R):Prop where
 h:H.ae<=u
 n2:u≠u2
 n5:u≠u5
 m:u∉mem
 j:J u=none
def LS.fresh(s:LS H I K J u2 u5 sN sE tn te Rqq sR cs fm mem)(hu:K.ae<=u):Cj H J u2 u5 mem u:=
 have a:=s.b2.lt s.g;have b:=s.b5.lt s.g;have c:=s.fr.ae
 ⟨aa,aa,aa,λ h=>by have:=(s.hm u h).2.1;omega,aaw s.g s.jK hu⟩
theorem Cj.data(f:Cj H J u2 u5 mem u)(hu:u<K.ae):Cj H (eh J K K') u2 u5 mem u:=⟨f.h,f.n2,f.n5,f.m,Ru hu f.j⟩
theorem LS.write(s:LS H I K J u2 u5 sN sE tn te Rqq sR cs fm mem)(g0:Good H)(f:Cj H J u2 u5 mem u){c new:aF}(b:dk K u c)(A:off+new.length<=c.length)(y:new.all au.dm=V):∃K',Go.Abs.write K u off new=O K'/\dk K' u (eV c off new)/\Ba u K K'/\LS H I K' J u2 u5 sN sE tn te Rqq sR cs fm mem:=by obtain⟨K',h1,h2,D,F⟩:=b.write s.g A y;exact⟨K',h1,h2,D,s.yJ g0 F D f.h f.n2 f.n5 f.m f.j⟩
theorem LS.alloc(s:LS H I K J u2 u5 sN sE tn te Rqq sR cs fm mem){c:aF}(h:Go.Abs.alloc K c V sz=K'):LS H I K' J u2 u5 sN sE tn te Rqq sR cs fm mem:=h▸s.keep (jb s.g _ _ _) (iv s.g _ _ _)
def aso{n:U}:aJ ρ I (eI n) (ao n):=by simp[aJ,jP]
def aDt:aJ ρ I (eW (BitVec.allOnes 64)) oU:=by show aJ ρ I (.sc (.int .u64 18446744073709551615)) _;simp[aJ,jP]
def P9{es:aP}(h:RP I (.sl es X) b):aJ ρ I (.sl es X) b:=by simpa only[aJ]using h
def ayy(g0:Good H)(ht:qU tn te)(s:LS H I K J u2 u5 sN sE tn te Rqq sR cs fm mem)(hi:i<2)(t5:ai T 5=.ptr u5 0)(t8:ai T 8=aW i)(t9:ai T 9=.ptr u9 0)(b9:dk K u9 [xa,xb,oU,xc,xd])
 {x1:aK} {x2:Sn} (d1:∀v∈x1,tj v) (d2:∀p∈x2,LG p) (l1:x1.length<=3) (l2:x2.length<=2) (ra:RP J (.sl (x1.map c8) X) xa) (rb:RP J (.sl (x2.map DM) X) xb)
 (hQ:∀T' K' S u10 u11 gn ge kn ke gN gE,bO J S->LS H I K' S u2 u5 sN sE tn te Rqq sR cs fm mem->qL T T'->ai T' 9=.ptr u9 0->ai T' 10=.ptr u10 0->ai T' 11=.ptr u11 0->dk K' u9 [xa,xb,oU,xc,xd]->dk K' u10 [gn,ge]->dk K' u11 (Oe (yH i) gn ge kn ke)->Cj H S u2 u5 mem u11->u11≠u9->u11≠u10->RP S (.sl gN X) gn->RP S (.sl gE X) ge->RP S (aO (bI gN.length)) kn->RP S (aO (bI gE.length)) ke->tz tn te gN gE->gN.length<=3->gE.length<=2->bB af ng (bZ ng) 150 c17 T' K' Qqq):
 bB af ng (bZ ng) 150 c15 T K Qqq:=by
 have am:∀l,(au.agg l).cells=l:=λ _=>rfl
 obtain⟨gN,gE,hv,hg,ln,le⟩:=aGN ht d1 d2 l1 l2;have hb:=nw (K:=K) s.g s.jK;obtain⟨a,M,e1,g3,f3,_,rr⟩:=yo (ng:=ng) (Ee (ng:=ng)) qY uT s.g s.jK s.g (Fr.refl _ _) (hv []) Q Q (xs:=[.agg [sN,sE],xa,xb,ao 3]) (bJ.2 ⟨_,_,Q,E6 (fD hb _ _ s.rN) (fD hb _ _ s.rE),bJ.2 ⟨_,_,Q,P9 (fD hb _ _ ra),bJ.2 ⟨_,_,Q,P9 (fD hb _ _ rb),bJ.2 ⟨_,_,Q,aso,by simp only[bu]⟩⟩⟩⟩);obtain⟨gn,ge,rfl,D,F⟩:=Kt rr;have s3:=s.data g3 f3;have j3:=nw (K:=M) s.g s.jK;generalize eh J K M=J1 at*;have q3:=s3.fresh (aZ M.ae);have h9:=b9.lt s.g;have b4:=dk.alloc M z53;obtain⟨K4,N,_,f4,_,aq⟩:=mg g3 z53 V 1;rw[N]at b4;have s4:=s3.alloc N;obtain⟨K5,w5,A,o5,y⟩:=s4.write g0 q3 b4 (off:=0) (new:=[gn,ge]) (aZ 2) (by simp only[ny,mD D,mD F];rfl);have M0:dD af K4 53 (.ptr M.ae 0) (.agg [gn,ge])=O K5:=by rw[Po Q];exact w5
 have P:dk K5 u9 [xa,xb,oU,xc,xd]:=((b9.keep f3).keep f4).qW o5 (by have:=f3.ae;omega);have A:dk K5 M.ae [gn,ge]:=A;have r5:aQ K.ah.get u5 0 2=O [sN,sE]:=s.b5.rd (aZ 2);have ea:aQ K.ah.get u9 (0+0) 1=O [xa]:=b9.rd (aa:(0+0)+1<=5);have eb:aQ K.ah.get u9 (0+1) 1=O [xb]:=b9.rd (aa:(0+1)+1<=5);refine aB (aS (H':=K5) (λ T=>ai T 10=.ptr M.ae 0) (mN t5 t9 (Aj r5) @apx @afV (Fg ea) (aiH eb) (AQ @aDq e1 @X0 am N @M0)) ?_);intro T1 Y k1;have al:qL T T1:=qL.of k1 Q Q Q Q Q;obtain⟨a8,a9⟩:=jA k1 t8 t9;have ac:=nw (K:=K5) y.g y.jK;obtain⟨c,K6,e6,g6,f6,_,ag⟩:=yo (ng:=ng) (Ee (ng:=ng)) qY uT y.g y.jK y.g (Fr.refl _ _) (axS hg ln le []) Q Q (xs:=[.agg [gn,ge],oU]) (bJ.2 ⟨_,_,Q,E6 (fD ac _ _ D) (fD ac _ _ F),bJ.2 ⟨_,_,Q,aDt,by simp only[bu]⟩⟩);obtain⟨kn,ke,rfl,Z,ab⟩:=Kt ag;have s6:=y.data g6 f6;have j6:=nw (K:=K6) y.g y.jK;refine aB (ave hi y.g a8 a9 Y P A e6 g6 f6 (mD D) (mD F) (mD Z) (mD ab) λ T2 K9 u11 k2 ad an g9 f9 hu=>?_);have ak:=s6.fresh hu;have ar:=P.lt y.g;have ap:=A.lt y.g;have av:=f6.ae;exact hQ T2 K9 _ M.ae u11 gn ge kn ke gN gE (λ u r e=>j6 u r (j3 u r e)) (s6.keep g9 f9) (al.trans (qL.of k2 Q Q Q Q Q)) (aL k2 a9) (aL k2 Y) ad ((P.keep f6).keep f9) ((A.keep f6).keep f9) an ak aa aa (fD j6 _ _ D) (fD j6 _ _ F) Z ab hg ln le
end
section
variable{a:aK}
variable{ng:R}{T:aM}{H K K':aj}{I J:Im}{u u2 u5:R}{sN sE sR:au}{tn te Rqq:aP}{cs new:aF}{fm:bA}{mem:bG}{Qqq:nv}
def agG{l:be}{c:au}(h:aJ ρ0 I (.bp l) c)(u:l≠[]):∃bs,c=.tuple bs/\bu ρ0 I l bs:=by
 simp only[aJ]at h;rcases h with h|⟨bs,rfl,h⟩
 .exact absurd h u
 exact⟨bs,Q,h⟩
def ai8{n:U}(h:aJ ρ0 I (eI n) b):b=ao n:=by simp only[aJ]at h;exact h.1
abbrev Xz(nm:jo)(gn ge hn he kn ke mn me:au):aF:=[.str nm,gn,ge,.aq,ao 0,.aq,hn,he,.aq,ao 0,.aq,kn,ke,mn,me,.bool V,ao 1,.aq,.aq,.aq,.aq,.aq,.aq,ao 0,.aq]
def avd{tn te:aP}(A:qU tn te)(D:tz tn te gN gE)(n3:gN.length<=3)(e2:gE.length<=2)(F:∀v∈a,tj v)(l:a.length<=3):
 ∃hN hE iN iE,(∀S,VW js ml 12 [.agg [.sl tn X,.sl te X],.agg [.sl gN X,.sl gE X],.sl (a.map c8) X] S=O (.bp [.agg [.sl hN X,.sl hE X],.agg [.sl iN X,.sl iE X]],S,W))/\F5 tn te gN gE hN hE iN iE:=by
 obtain⟨hN,hE,iN,iE,h0,h1,h2,Y,P,h5,N,M,K,J,y,u⟩:=aGE A D n3 e2 F l;exact⟨hN,hE,iN,iE,h0,⟨h1,h2,Y,P,h5,N,M,K,J,y,u⟩⟩
def aoR(P:qU tn te)(S:tz tn te gN gE)(n3:gN.length<=3)(e2:gE.length<=2)(Y:∀v∈a,tj v)(l:a.length<=3)(s:LS H I K J u2 u5 sN sE tn te Rqq sR cs fm mem){x:au}(r1:RP J (.sl gN X) gn)(r2:RP J (.sl gE X) ge)(r3:RP J (.sl (a.map c8) X) x):
 ∃hN hE iN iE hn he mn me K',bZ ng 12 [.agg [sN,sE],.agg [gn,ge],x] K=O (.tuple [.agg [hn,he],.agg [mn,me]],K')/\Fr X K K'/\LS H I K' (eh J K K') u2 u5 sN sE tn te Rqq sR cs fm mem/\F5 tn te gN gE hN hE iN iE/\RP (eh J K K') (.sl hN X) hn/\RP (eh J K K') (.sl hE X) he/\RP (eh J K K') (.sl iN X) mn/\RP (eh J K K') (.sl iE X) me:=by
 obtain⟨hN,hE,iN,iE,N,hm⟩:=avd P S n3 e2 Y l;have y:=nw (K:=K) s.g s.jK;obtain⟨c,K',e1,Z,A,_,D⟩:=yo (ng:=ng) (Ee (ng:=ng)) qY uT s.g s.jK s.g (Fr.refl _ _) (N []) rfl rfl (xs:=[.agg [sN,sE],.agg [gn,ge],x]) (bJ.2 ⟨_,_,rfl,E6 (fD y _ _ s.rN) (fD y _ _ s.rE),bJ.2 ⟨_,_,rfl,E6 (fD y _ _ r1) (fD y _ _ r2),bJ.2 ⟨_,_,rfl,P9 (fD y _ _ r3),by simp only[bu]⟩⟩⟩);obtain⟨bs,rfl,u⟩:=agG D aw;obtain⟨b0,_,rfl,h0,u⟩:=bJ.1 u;obtain⟨b1,_,rfl,h1,u⟩:=bJ.1 u;obtain rfl:=lX.1 u;obtain⟨hn,he,rfl,q1,q2⟩:=Kt h0;obtain⟨mn,me,rfl,M,F⟩:=Kt h1;exact⟨hN,hE,iN,iE,hn,he,mn,me,K',e1,A,s.data Z A,hm,q1,q2,M,F⟩
def aGr(g0:Good H)(ht:qU tn te)(s:LS H I K J u2 u5 sN sE tn te Rqq sR cs fm mem)(t5:ai T 5=.ptr u5 0)(t9:ai T 9=.ptr u9 0)(ac:ai T 10=.ptr u10 0)(ab:ai T 11=.ptr u11 0)
 (b9:dk K u9 [xa,xb,oU,xc,xd]) (Y:dk K u10 [gn,ge]) (D:dk K u11 (Oe nm gn ge kn ke)) (y:Cj H J u2 u5 mem u11) (aI:u11≠u9) (ao:u11≠u10)
 (aE:RP J (.sl gN X) gn) (aG:RP J (.sl gE X) ge) (aC:RP J (aO (bI gN.length)) kn) (aD:RP J (aO (bI gE.length)) ke) (hg:tz tn te gN gE) (n3:gN.length<=3) (e2:gE.length<=2)
 {x3:aK} (d3:∀v∈x3,tj v) (l3:x3.length<=3) (rc:RP J (.sl (x3.map c8) X) xc)
 (hQ:∀T' K' Z hN hE iN iE hn he mn me,bO J Z->LS H I K' Z u2 u5 sN sE tn te Rqq sR cs fm mem->qL T T'->ai T' 9=.ptr u9 0->ai T' 10=.ptr u10 0->ai T' 11=.ptr u11 0->dk K' u9 [xa,xb,oU,xc,xd]->dk K' u10 [gn,ge]->dk K' u11 (Xz nm gn ge hn he kn ke mn me)->Cj H Z u2 u5 mem u11->F5 tn te gN gE hN hE iN iE->RP Z (.sl hN X) hn->RP Z (.sl hE X) he->RP Z (.sl iN X) mn->RP Z (.sl iE X) me->bB af ng (bZ ng) 150 c19 T' K' Qqq):
 bB af ng (bZ ng) 150 c17 T K Qqq:=by
 have aR:∀l,(au.agg l).cells=l:=λ _=>rfl
 obtain⟨iN,iE,hv⟩:=asI ht hg n3 e2;have hb:=nw (K:=K) s.g s.jK;obtain⟨a,F,e1,g3,f3,_,rr⟩:=yo (ng:=ng) (Ee (ng:=ng)) qY uT s.g s.jK s.g (Fr.refl _ _) (hv []) rfl rfl (xs:=[.agg [gn,ge],.agg [kn,ke]]) (bJ.2 ⟨_,_,rfl,E6 (fD hb _ _ aE) (fD hb _ _ aG),bJ.2 ⟨_,_,rfl,E6 (fD hb _ _ aC) (fD hb _ _ aD),by simp only[bu]⟩⟩);obtain⟨bs,rfl,A⟩:=agG rr aw;obtain⟨b0,_,rfl,h0,A⟩:=bJ.1 A;obtain⟨b1,_,rfl,h1,A⟩:=bJ.1 A;obtain⟨b2,_,rfl,h2,A⟩:=bJ.1 A;obtain rfl:=lX.1 A;obtain⟨jn,je,rfl,ak,al⟩:=Kt h0;obtain⟨pn,pe,rfl,az,aA⟩:=Kt h1;obtain rfl:=ai8 h2;have s3:=s.data g3 f3;have j3:=nw (K:=F) s.g s.jK;have y:=y.data (K':=F) (D.lt s.g);generalize eh J K F=J1 at*;have aY:=f3.ae;have p9:=b9.lt s.g;have aV:=Y.lt s.g;have aU:=D.lt s.g;have q3:=s3.fresh (aZ F.ae);have b4:=dk.alloc F z53;obtain⟨K4,N,_,f4,_,aX⟩:=mg g3 z53 V 1;rw[N]at b4;have s4:=s3.alloc N;have q4:=s4.fresh (aZ K4.ae);have b5:=dk.alloc K4 M9;obtain⟨K5,M,_,f5,_,aW⟩:=mg s4.g M9 V 1;rw[M]at b5;have s5:=s4.alloc M;obtain⟨K6,w6,S,o6,s6⟩:=s5.write g0 q3 (b4.keep f5) (off:=0) (new:=[jn,je]) (aZ 2) (by simp only[ny,mD ak,mD al];rfl);have Fj:dD af K5 53 (.ptr F.ae 0) (.agg [jn,je])=O K6:=by rw[Po rfl];exact w6
 obtain⟨K7,w7,a0,o7,s7⟩:=s6.write g0 q4 (b5.qW o6 aa) (off:=0) (new:=[pn,pe]) (aZ 2) (by simp only[ny,mD az,mD aA];rfl);have LW:dD af K6 64 (.ptr K4.ae 0) (.agg [pn,pe])=O K7:=by rw[adL rfl];exact w7
 have kb:∀{x:R} {c:aF},dk K x c->dk K7 x c:=λ {x c} b=>by have:=b.lt s.g;exact((((b.keep f3).keep f4).keep f5).qW o6 aa).qW o7 aa
 have S:dk K7 F.ae [jn,je]:=S.qW o7 aa;have G6:aQ K.ah.get u10 0 2=O [gn,ge]:=Y.rd (aZ 2);have Nr:aQ K.ah.get u11 (0+11) 2=O [kn,ke]:=D.rd (aa:(0+11)+2<=25);refine aB (aS (H':=K7) (λ T=>ai T 12=.ptr F.ae 0) (mN ac ab (Lw G6) @aFW (azN Nr) @ary e1 (zA @X0 @afi aR N M @Fj @LW)) ?_);intro T1 ax k1;have ap:qL T T1:=qL.of k1 rfl rfl rfl rfl rfl;have a5:=ap.2.1.trans t5;obtain⟨a9,aT,ar⟩:=pB k1 t9 ac ab;obtain⟨hN,hE,aJ,aN,hn,he,mn,me,K8,e8,f8,s8,hm,am,an,ad,ag⟩:=aoR (ng:=ng) ht hg n3 e2 d3 l3 s7 ak al (fD j3 _ _ rc);have j8:=nw (K:=K8) s7.g s7.jK;have aq:=(kb D).keep f8;have y:=y.data (K':=K8) ((kb D).lt s7.g);generalize eh J1 K7 K8=J2 at*;obtain⟨K9,w9,P,o9,s9⟩:=s8.write g0 y aq (off:=6) (new:=[hn,he]) (aa:6+2<=25) (by simp only[ny,mD am,mD an];rfl);have st9:dD af K8 53 (.ptr u11 (0+6+0)) (.agg [hn,he])=O K9:=by rw[Po rfl];exact w9
 obtain⟨K10,av,P,aH,ay⟩:=s9.write g0 y P (off:=13) (new:=[mn,me]) (by simp[N2]) (by simp only[ny,mD ad,mD ag];rfl);have Nl:dD af K9 64 (.ptr u11 (0+13)) (.agg [mn,me])=O K10:=by rw[adL rfl];exact av
 have r5:aQ K7.ah.get u5 0 2=O [sN,sE]:=s7.b5.rd (aZ 2);have Yo:aQ K7.ah.get F.ae 0 2=O [jn,je]:=S.rd (aZ 2);have r9:aQ K7.ah.get u9 (0+3) 1=O [xc]:=(kb b9).rd (aa:(0+3)+1<=5);refine aB (aS (H':=K10) (λ T=>True) (mN a5 a9 ar ax (Aj r5) (Lw Yo) @anv (mN (Fg r9) @anZ e8 @asY @aJL @aA2 @st9 @Nl)) ?_);intro T2 _ k2;have kk:∀{x:R} {c:aF},dk K x c->u11≠x->dk K10 x c:=λ {x c} b ne=>(((kb b).keep f8).qW o9 ne.symm).qW aH ne.symm
 exact hQ T2 K10 J2 hN hE aJ aN hn he mn me (λ u r e=>j8 u r (j3 u r e)) ay (ap.trans (qL.of k2 rfl rfl rfl rfl rfl)) (aL k2 a9) (aL k2 aT) (aL k2 ar) (kk b9 aI) (kk Y ao) P y hm am an ad ag
end
section
variable{hN:aP}{k:U}
variable{ng:R}{T:aM}{H K K':aj}{I J:Im}{u u2 u5:R}{sN sE sR:au}{tn te Rqq:aP}{cs new:aF}{fm:bA}{mem:bG}{Qqq:nv}
theorem amg(g:Good K){c:aF}(h:dq (eh J K K') e c)(he:e.length=sz)(y:Go.Abs.alloc K c V sz=K'):RP (eh J K K') (.sl [e] X) (.slice K.ae 0 1 X):=by
 have A:=wm h;have u:eh J K K' K.ae=O ⟨c,K.ae,0,V,W,sz⟩:=by unfold eh;rw[aR (KR _),<-y];exact(mK K c V sz).row
 simp only[RP];refine .inr ⟨K.ae,0,X,_,sz,Q,u,.inr ⟨Q,Q⟩,by grind[List.length_cons,List.length_nil],?_⟩;simp only[gU,rO,tP];grind[qa,PN,apz,List.length_take,C8]
theorem oD:RP I nS .aq:=by simp[RP]
def DG{n:U}:RP I (eI n) (ao n):=by simp[RP,jP]
def arU{b:Bool}:RP I (eB b) (.bool b):=by simp[RP,jP]
def aGB:RP I (.sc (.str s)) (.str s):=by simp[RP,jP]
abbrev VU:aF:=[ao 1,.aq,.aq,.aq,.aq,.aq,.aq,ao 0,.aq]
def arc:dq I CT VU:=fL.2 ⟨_,_,Q,DG,fL.2 ⟨_,_,Q,oD,fL.2 ⟨_,_,Q,oD,fL.2 ⟨_,_,Q,oD,fL.2 ⟨_,_,Q,oD,fL.2 ⟨_,_,Q,oD,fL.2 ⟨_,_,Q,oD,fL.2 ⟨_,_,Q,DG,fL.2 ⟨_,_,Q,oD,xp.2 Q⟩⟩⟩⟩⟩⟩⟩⟩⟩
def aJg{w a c d:au}(h0:RP I (.sl [CT] X) w)(h1:RP I (.sl iN X) a)(h2:RP I (.sl iE X) b)(y:RP I (.sl gN X) c)(u:RP I (.sl gE X) d):dq I (CX iN iE gN gE) [ao 5,w,a,b,c,d,.aq,ao 0,.aq]:=fL.2 ⟨_,_,Q,DG,fL.2 ⟨_,_,Q,h0,fL.2 ⟨_,_,Q,h1,fL.2 ⟨_,_,Q,h2,fL.2 ⟨_,_,Q,y,fL.2 ⟨_,_,Q,u,fL.2 ⟨_,_,Q,oD,fL.2 ⟨_,_,Q,DG,fL.2 ⟨_,_,Q,oD,xp.2 Q⟩⟩⟩⟩⟩⟩⟩⟩⟩
abbrev HX(nm:jo)(gn ge hn he kn ke mn me:au)(k:U)(w:au):aF:=[.str nm,gn,ge,.aq,ao 0,.aq,hn,he,.aq,ao 0,.aq,kn,ke,mn,me,.bool V,ao k,w,.aq,.aq,.aq,.aq,.aq,ao 0,.aq]
def af2{hE kN kE cc:aP}{w:au}(u:k=(cc.length:U)+1)(h1:RP I (.sl gN X) gn)(h2:RP I (.sl gE X) ge)(K:RP I (.sl hN X) hn)(J:RP I (.sl hE X) he)(h5:RP I (.sl kN X) kn)(F:RP I (.sl kE X) ke)(D:RP I (.sl iN X) mn)(A:RP I (.sl iE X) me)(y:RP I (.sl cc X) w):
 dq I (ruC nm gN gE hN hE kN kE iN iE cc) (HX nm gn ge hn he kn ke mn me k w):=by
 subst u;exact fL.2 ⟨_,_,Q,aGB,fL.2 ⟨_,_,Q,h1,fL.2 ⟨_,_,Q,h2,fL.2 ⟨_,_,Q,oD,fL.2 ⟨_,_,Q,DG,fL.2 ⟨_,_,Q,oD,fL.2 ⟨_,_,Q,K,fL.2 ⟨_,_,Q,J,fL.2 ⟨_,_,Q,oD,fL.2 ⟨_,_,Q,DG,fL.2 ⟨_,_,Q,oD,fL.2 ⟨_,_,Q,h5,fL.2 ⟨_,_,Q,F,fL.2 ⟨_,_,Q,D,fL.2 ⟨_,_,Q,A,fL.2 ⟨_,_,Q,arU,fL.2 ⟨_,_,Q,DG,fL.2 ⟨_,_,Q,y,fL.2 ⟨_,_,Q,oD,fL.2 ⟨_,_,Q,oD,fL.2 ⟨_,_,Q,oD,fL.2 ⟨_,_,Q,oD,fL.2 ⟨_,_,Q,oD,fL.2 ⟨_,_,Q,DG,fL.2 ⟨_,_,Q,oD,xp.2 Q⟩⟩⟩⟩⟩⟩⟩⟩⟩⟩⟩⟩⟩⟩⟩⟩⟩⟩⟩⟩⟩⟩⟩⟩⟩
def g23:Code:=match c19 with
 |.seq _ c=>c
 |_=>.skip
def Kq4(T u:aM):Prop:=ai u 2=ai T 2/\ai u 5=ai T 5/\ai u 47=ai T 47/\ai u 48=ai T 48
theorem akr(g0:Good H)(s:LS H I K J u2 u5 sN sE tn te Rqq sR cs fm mem)(t7:ai T 7=sR)(Y:ai T 11=.ptr u11 0){w:au}(ag:dk K u11 (HX nm gn ge hn he kn ke mn me k w))(F:dq J e (HX nm gn ge hn he kn ke mn me k w))(hl:Rqq.length<=10)
 (hQ:∀T' K' u ad D y,Kq4 T T'->ai T' 7=u->LS H I K' J u2 u5 sN sE tn te (Rqq++[e]) u ad D y->Qqq .normal T' K'):bB af ng (bZ ng) 150 g23 T K Qqq:=by
 have Nr:aQ K.ah.get u11 0 25=O (HX nm gn ge hn he kn ke mn me k w):=ag.rd (aZ 25);have Z:=awC Nr;have o1:=mK K (HX nm gn ge hn he kn ke mn me k w) V 25;have hq:=aqt (c0:=.str nm) (c1:=gn) (c2:=ge) (c3:=.aq) (c4:=ao 0) (c5:=.aq) (c6:=hn) (c7:=he) (c8:=.aq) (c9:=ao 0) (c10:=.aq) (c11:=kn) (c12:=ke) (c13:=mn) (c14:=me) (c15:=.bool V) (c16:=ao k) (c17:=w) (c18:=.aq) (c19:=.aq) (c20:=.aq) (c21:=.aq) (c22:=.aq) (c23:=ao 0) (c24:=.aq);have ac:e.length=25:=(wm F).symm;generalize M:HX nm gn ge hn he kn ke mn me k w=rc at*;have hq:oW af 35 1 (O [(0,.agg rc)])=O (rc,25,O 1):=by rw[<-M];exact hq
 have ab:rc.length=25:=by rw[<-M];rfl
 generalize N:alloc K rc V 25=K1 at*;have s1:=s.alloc N;obtain⟨u,K2,D,y,w2,s2⟩:=s1.app g0 ac F hl;have aa:er K1.ah.get 25 1 (.slice K.ae 0 1 X)=O rc:=by show aQ K1.ah.get K.ae 0 25=O rc;rw[o1.rd (off:=0) (n:=25) (by simp only[ab];decide)];grind[PN]
 have A:=aA8 (H:=K1) (s:=sR) (x:=.slice K.ae 0 1 X) (n:=1) Q aa;rw[w2]at A;refine aS (H':=K2) (λ T=>ai T 7=u) (AQ t7 Y Z hq N A) ?_;intro T1 S P;exact hQ T1 K2 u _ D y ⟨P 2 Q,P 5 Q,P 47 Q,P 48 Q⟩ S s2
theorem aI4(g0:Good H)(ht:qU tn te)(s:LS H I K J u2 u5 sN sE tn te Rqq sR cs fm mem){hE:aP}(t5:ai T 5=.ptr u5 0)(t7:ai T 7=sR)(t9:ai T 9=.ptr u9 0)(a8:ai T 10=.ptr u10 0)(a6:ai T 11=.ptr u11 0)
 (b9:dk K u9 [xa,xb,oU,xc,xd]) (bm:dk K u10 [gn,ge]) (ag:dk K u11 (Xz (yH i) gn ge hn he kn ke mn me)) (F:Cj H J u2 u5 mem u11)
 (am:RP J (.sl gN X) gn) (an:RP J (.sl gE X) ge) (aN:RP J (.sl hN X) hn) (aR:RP J (.sl hE X) he) (aI:RP J (aO (bI gN.length)) kn) (aJ:RP J (aO (bI gE.length)) ke) (aG:RP J (.sl iN X) mn) (aH:RP J (.sl iE X) me) (hg:tz tn te gN gE) (n3:gN.length<=3) (e2:gE.length<=2) (hm:F5 tn te gN gE hN hE iN iE)
 {x4:aK} (d4:∀v∈x4,tj v) (l4:x4.length<=3) (rd:RP J (.sl (x4.map c8) X) xd) (hl:Rqq.length<=10)
 (hQ:∀T' K' J' N Z Y A e,bO J J'->LS H I K' J' u2 u5 sN sE tn te (Rqq++[e]) N Z Y A->Kq4 T T'->ai T' 7=N->(∀j,de (aC tn te) 16 [(tn.length:U),(te.length:U),1] j e)->(x4=[]->¬zO e)->Qqq .normal T' K'):
 bB af ng (bZ ng) 150 c19 T K Qqq:=by
 have aW:∀l,(au.agg l).cells=l:=λ _=>rfl
 have aV:yH i∈rJ:=by unfold yH;split<;>decide
 have r9:aQ K.ah.get u9 (0+4) 1=O [xd]:=b9.rd (aa:(0+4)+1<=5);have n4:dh af 23 xd=O (ao (gu x4.length)):=by grind[tB,adi,HY]
 refine aB (aB (aS (H':=K) (λ T=>ai T 115=.bool (decide (0<x4.length))) (nP t9 @Tx (Fg r9) n4) ?_));intro T1 ay k1;obtain⟨a5,a7,a9,bn,M⟩:=nR k1 t5 t7 t9 a8 a6;refine eX (by rw[fQ,ay]) (λ h=>?_) (λ h=>fZ ?_)
 .have h:=jL h;obtain⟨xN,xE,jN,jE,P,S,pn,pe,K3,e3,f3,s3,bj,az,aA,aD,aE⟩:=aoR (ng:=ng) ht hg n3 e2 d4 l4 s am an rd;have j3:=nw (K:=K3) s.g s.jK;have F:=F.data (K':=K3) (ag.lt s.g);have bo:=ag.lt s.g;have bv:=f3.ae;generalize eh J K K3=J1 at*;have q3:=s3.fresh (aZ K3.ae);have b4:=dk.alloc K3 z53;obtain⟨K4,ar,_,f4,_,bt⟩:=mg s3.g z53 V 1;rw[ar]at b4;have s4:=s3.alloc ar;have q4:=s4.fresh (aZ K4.ae);have b5:=dk.alloc K4 M9;obtain⟨K5,ad,_,f5,_,bs⟩:=mg s4.g M9 V 1;rw[ad]at b5;have s5:=s4.alloc ad;obtain⟨K6,w6,ax,o6,s6⟩:=s5.write g0 q3 (b4.keep f5) (off:=0) (new:=[P,S]) (aZ 2) (by grind[mD]);have Fj:dD af K5 53 (.ptr K3.ae 0) (.agg [P,S])=O K6:=by rw[Po Q];exact w6
  obtain⟨K7,w7,aw,o7,s7⟩:=s6.write g0 q4 (b5.qW o6 aa) (off:=0) (new:=[pn,pe]) (aZ 2) (by grind[mD]);have LW:dD af K6 64 (.ptr K4.ae 0) (.agg [pn,pe])=O K7:=by rw[adL Q];exact w7
  have y:dk K7 u11 (Xz (yH i) gn ge hn he kn ke mn me):=((((ag.keep f3).keep f4).keep f5).qW o6 aa).qW o7 aa;have ax:dk K7 K3.ae [P,S]:=ax.qW o7 aa;have aw:dk K7 K4.ae [pn,pe]:=aw;have r5:aQ K.ah.get u5 0 2=O [sN,sE]:=s.b5.rd (aZ 2);have G6:aQ K.ah.get u10 0 2=O [gn,ge]:=bm.rd (aZ 2);refine aB (aS (H':=K7) (λ T=>ai T 15=.ptr K3.ae 0/\ai T 16=.ptr K4.ae 0) (mN a5 a9 bn (Aj r5) (Lw G6) @Tx (Fg r9) (mN @anZ e3 @X0 @afi aW ar ad (iy @Fj @LW))) ?_)
  rintro T2 ⟨a4,a3⟩ k2
  have M:=aL k2 M;have br:K4.ae+1=K7.ae:=by rw[o7.n,o6.n,<-ad];rfl
  obtain⟨K8,ac,_,f8,_⟩:=mg s7.g VU V 9;have s8:=s7.data (ac▸jb s7.g VU V 9) f8;have j8:=nw (K:=K8) s7.g s7.jK;have bd:RP (eh J1 K7 K8) (.sl [CT] X) (.slice K7.ae 0 1 X):=amg s7.g arc Q ac;have F:=F.data (K':=K8) (y.lt s7.g);generalize eh J1 K7 K8=J2 at*;have bq:K8.ae=K7.ae+1:=by rw[<-ac];rfl
  have q8:=s8.fresh (aZ K8.ae);have aY:=dk.alloc K8 z66;obtain⟨K9,ap,_,f9,_,bp⟩:=mg s8.g z66 V 1;rw[ap]at aY;have s9:=s8.alloc ap;obtain⟨K10,a1,av,bi,D⟩:=s9.write g0 q8 aY (off:=0) (new:=[ao 5,.slice K7.ae 0 1 X,pn,pe,P,S,.aq,ao 0,.aq]) (aZ 9) (by simp only[ny,mD az,mD aA,mD aD,mD aE];rfl);have Nl:dD af K9 66 (.ptr K8.ae 0) (.agg [ao 5,.slice K7.ae 0 1 X,pn,pe,P,S,.aq,ao 0,.aq])=O K10:=by rw[ai9 Q];exact a1
  have av:dk K10 K8.ae [ao 5,.slice K7.ae 0 1 X,pn,pe,P,S,.aq,ao 0,.aq]:=av;have bu:=y.lt s7.g;have y:=((y.keep f8).keep f9).qW bi aa;have bh:aQ K7.ah.get K3.ae 0 2=O [P,S]:=ax.rd (aZ 2);have bg:aQ K7.ah.get K4.ae 0 2=O [pn,pe]:=aw.rd (aZ 2);refine aB (aS (H':=K10) (λ T=>ai T 17=.ptr K8.ae 0) (mN a4 a3 (Lw bh) (ayW bg) @aiz @ak3 @al9 (AQ ac @aJa @auS aW ap @Nl)) ?_);intro T3 a2 k3;have M:=aL k3 M;have bc:dq J2 (CX jN jE xN xE) [ao 5,.slice K7.ae 0 1 X,pn,pe,P,S,.aq,ao 0,.aq]:=aJg bd (fD j8 _ _ aD) (fD j8 _ _ aE) (fD j8 _ _ az) (fD j8 _ _ aA);have aX:=iv D.g [ao 5,.slice K7.ae 0 1 X,pn,pe,P,S,.aq,ao 0,.aq] V 9;have bk:=jb D.g [ao 5,.slice K7.ae 0 1 X,pn,pe,P,S,.aq,ao 0,.aq] V 9;have bf:aQ K10.ah.get K8.ae 0 9=O [ao 5,.slice K7.ae 0 1 X,pn,pe,P,S,.aq,ao 0,.aq]:=av.rd (aZ 9);generalize ak:alloc K10 [ao 5,.slice K7.ae 0 1 X,pn,pe,P,S,.aq,ao 0,.aq] V 9=ab at*;have bb:=D.data bk aX;have aU:=nw (K:=ab) D.g D.jK;have aT:RP (eh J2 K10 ab) (.sl [CX jN jE xN xE] X) (.slice K10.ae 0 1 X):=amg D.g (B0 aU _ _ bc) Q ak;have F:=F.data (K':=ab) (y.lt D.g);generalize eh J2 K10 ab=J3 at*;obtain⟨K12,a0,bl,V5,ba⟩:=bb.write g0 F (y.keep aX) (off:=16) (new:=[ao 2,.slice K10.ae 0 1 X,.aq,.aq,.aq,.aq,.aq,ao 0,.aq]) (aa:16+9<=25) Q;have WV:dD af ab 66 (.ptr u11 (0+16)) (.agg [ao 2,.slice K10.ae 0 1 X,.aq,.aq,.aq,.aq,.aq,ao 0,.aq])=O K12:=by rw[ai9 Q];exact a0
  refine aS (H':=K12) (λ T=>True) (mN a2 M (aHZ bf) @al9 ak @aqB @asu @WV) ?_;intro T4 _ k4;have jj:bO J J3:=λ u r e=>aU u r (j8 u r (j3 u r e))
  refine akr g0 ba (aL k4 (aL k3 (aL k2 a7))) (aL k4 M) bl (af2 (cc:=[CX jN jE xN xE]) Q (fD jj _ _ am) (fD jj _ _ an) (fD jj _ _ aN) (fD jj _ _ aR) (fD jj _ _ aI) (fD jj _ _ aJ) (fD jj _ _ aG) (fD jj _ _ aH) aT) hl λ T' K' N Z Y A kq al s'=>?_
  refine hQ T' K' J3 N Z Y A _ jj s' ⟨kq.1.trans (aL k4 (aL k3 (aL k2 (k1 2 Q)))),kq.2.1.trans (aL k4 (aL k3 (aL k2 (k1 5 Q)))),kq.2.2.1.trans (aL k4 (aL k3 (aL k2 (k1 47 Q)))),kq.2.2.2.trans (aL k4 (aL k3 (aL k2 (k1 48 Q))))⟩ al (λ j=>anA aV hg n3 e2 hm (.inr ⟨xN,xE,jN,jE,bj,Q⟩)) λ e=>?_
  rw[e]at h;simp at h
 .have h:=tM h;refine akr g0 s a7 M ag (af2 (cc:=[]) Q am an aN aR aI aJ aG aH oD) hl λ T' K' N Z Y A kq al s'=>?_
  refine hQ T' K' J N Z Y A _ (bO.refl _) s' ⟨kq.1.trans (k1 2 Q),kq.2.1.trans (k1 5 Q),kq.2.2.1.trans (k1 47 Q),kq.2.2.2.trans (k1 48 Q)⟩ al (λ j=>anA aV hg n3 e2 hm (.inl Q)) λ _=>?_
  rintro⟨f,o,h1,h2⟩
  cases h1;exact h2 Q
end
section
section
variable{P:aA}{ng n:R}{aae:bg}{H0 H:aj}{aag l:dM}{bef:oh}{i:R}{rs bM:bG}{eO:Bool}{T:aM}{F:ID}{o:Oper}
def WX(u:cn aag T o=W)(h:vp P ng aae n H0 aag bef l (i+1) rs bM eO (dZ n T o.dst (.tuple [])) H F):vp P ng aae n H0 aag bef (o::l) i rs bM eO T H F:=λ S g=>by rw[BM,u];exact h S g
end
variable{ng:R}{T:aM}{H K K':aj}{I J:Im}{u u2 u5:R}{sN sE sR:au}{tn te Rqq:aP}{cs new:aF}{fm:bA}{mem:bG}{Qqq:nv}
noncomputable def g25:Code:=match Tryz.f4.body with
 |O (.seq _ (.seq _ (.seq _ (.seq _ (.seq _ (.seq _ (.seq c _)))))))=>c
 |_=>.skip
def alj{aae:bg}{l:aF}{H:aj}:eL af aae 13 l H=aae 13 l H:=rfl
def aIZ{aae:bg}{l:aF}{H:aj}:eL af aae 14 l H=aae 14 l H:=rfl
def avR{b:Bool}{c:au}(h:aJ ρ0 I (eB b) c):c=.bool b:=h.1
def mP(K:aj)(u2 u5:R):Im:=λ u=>if u=u2\/u=u5 then X else K.ah.get u
theorem LS.done(s:LS H I K J u2 u5 sN sE tn te Rqq sR cs fm mem):bO J (mP K u2 u5)/\bO (mP K u2 u5) K.ah.get/\RP (mP K u2 u5) (.sl Rqq X) sR:=by
 have A:bO J (mP K u2 u5):=λ u r e=>by
  unfold mP;have hu:¬(u=u2\/u=u5):=λ h=>by grind[n2,n5]
  exact(aR hu)▸s.jK u r e
 refine⟨A,λ u r e=>?_,?_⟩;.grind[mP]
 have rR:=Ap A _ _ _ s.rR;obtain⟨h1,⟨rfl,h2⟩|⟨x,r,rfl,o,y,F⟩⟩:=s.L.sl;.grind[oD]
 have hx:=s.hm x (s.L.own _ _ _ _ Q);have D:mP K u2 u5 x=O r:=by unfold mP;rw[aR aa];exact o.row
 exact .inr ⟨x,0,X,r,25,Q,D,.inr ⟨Q,y⟩,aa,bP⟩
theorem Nq{p:Prop}(h:p:=by simp+decide only[AB];rfl):p:=h
theorem aFX(g0:Good H)(ht:qU tn te)(s:LS H I K J u2 u5 sN sE tn te Rqq sR cs fm mem)(S:SL tn te Rqq)(t2:ai T 2=.ptr u2 0)(M:ai T 5=.ptr u5 0)(F:ai T 7=sR)
 (hQ:∀T' K' y b,Fr none H K'->Good K'->bO I y->bO y K'.ah.get->RP y (.sl tn none) sN->RP y (.sl te none) sE->RP y (.sl Rqq none) sR->ai T' 2=.ptr u2 0->dk K' u2 [sN,sE]->ai T' 3=sR->ai T' 4=.bool b->Qqq .normal T' K'):bB af ng (bZ ng) 150 g25 T K Qqq:=by
 obtain⟨hJ,jK,rR⟩:=s.done;have ac:mP K u2 u5 u2=none:=by grind[mP]
 generalize mP K u2 u5=J0 at*;have rN:=fD hJ _ _ s.rN;have rE:=fD hJ _ _ s.rE;have iJ:bO I J0:=λ u r e=>hJ u r (s.iJ u r e)
 obtain⟨v,hv⟩:=aq4 ht S;obtain⟨b,hb⟩:=asD ht S;have jS:∀{y:Im},bO J0 y->bu ρ0 y [.agg [.sl tn none,.sl te none],.sl Rqq none] [.agg [sN,sE],sR]:=λ h=>bJ.2 ⟨_,_,rfl,E6 (fD h _ _ rN) (fD h _ _ rE),bJ.2 ⟨_,_,rfl,P9 (fD h _ _ rR),by simp only[bu]⟩⟩
 obtain⟨c,K1,e1,g1,Z,_,ab⟩:=yo (ng:=ng) (Ee (ng:=ng)) qY uT s.g jK s.g (Fr.refl _ _) (hv []) rfl rfl (jS (nw s.g jK));obtain rfl:=ai8 ab;obtain⟨d,K2,e2,g2,f2,_,aa⟩:=yo (ng:=ng) (Ee (ng:=ng)) qY uT s.g jK g1 Z (hb []) rfl rfl (jS (nw s.g jK));obtain rfl:=avR aa;have r5:aQ K.ah.get u5 0 2=O [sN,sE]:=s.b5.rd (aZ 2);have N:=Aj r5;have kr:∀{A Bqq:aj},Fr none A Bqq->∀u q,A.ah.get u=O q->Bqq.ah.get u=O q:=λ f u q e=>f.row u q e aw
 have wr:∀{Xqq:aj},Good Xqq->Fr none K Xqq->∃Y,dD af Xqq 34 (.ptr u2 0) (.agg [sN,sE])=O Y/\dk Y u2 [sN,sE]/\Fr none H Y/\Good Y/\bO J0 Y.ah.get:=λ {Xqq} gx fx=>by obtain⟨Y,w1,w2,w3,w4⟩:=(s.b2.keep fx).write gx (off:=0) (new:=[sN,sE]) (aZ 2) (by grind[mD]);exact⟨Y,by rw[LH rfl];exact w1,w2,(s.fr.trans fx).yJ g0 w3 s.h2,w4,imO (LP jK fx) w3 ac⟩
 refine adz ?_;by_cases P:v=0
 .subst P;obtain⟨Y,st,bY,fY,gY,jY⟩:=wr g2 (Z.trans f2);refine xz rfl (cf rfl) (r:=(.agg [sN,sE],K)) (by simp+decide only[AB,M,N]) ?_;refine nY rfl (cf rfl) vZ ?_;refine xz rfl (cf rfl) (r:=(.agg [sN,sE],K)) (by simp+decide only[AB,M,N]) ?_;refine nY rfl (cf rfl) vZ ?_;refine Hw rfl (cf rfl) (r:=(ao 0,K1)) (by simp+decide only[AB,F,mG,ou,alj,e1]) (kr Z) rfl ?_;refine nY rfl (cf rfl) Nq ?_;refine nY rfl (cf rfl) vZ ?_;refine xz rfl ((DD (b:=V) rfl rfl rfl gW).trans rfl) (r:=(.agg [sN,sE],K)) (by simp+decide only[AB,M,N]) ?_;refine nY rfl ((DD (b:=V) rfl rfl rfl gW).trans rfl) vZ ?_;refine Hw rfl ((DD (b:=V) rfl rfl rfl gW).trans rfl) (r:=(.bool b,K2)) (by simp+decide only[AB,F,mG,ou,aIZ,e2]) (kr f2) aH ?_;refine nY rfl (cf rfl) Nq ?_;refine Qc rfl (cf rfl) (r:=(.tuple [],Y)) (by simp+decide only[AB,t2,st]) aH aH ?_;refine nY rfl (cf rfl) (by simp+decide only[AB,F];rfl) ?_;refine nY rfl (cf rfl) vZ ?_;refine R5 λ D=>?_
  exact hQ _ Y J0 b fY gY iJ jY rN rE rR (aL D t2) bY gW gW
 .obtain⟨Y,st,bY,fY,gY,jY⟩:=wr g1 Z;refine xz rfl (cf rfl) (r:=(.agg [sN,sE],K)) (by simp+decide only[AB,M,N]) ?_;refine nY rfl (cf rfl) vZ ?_;refine xz rfl (cf rfl) (r:=(.agg [sN,sE],K)) (by simp+decide only[AB,M,N]) ?_;refine nY rfl (cf rfl) vZ ?_;refine Hw rfl (cf rfl) (r:=(ao v,K1)) (by simp+decide only[AB,F,mG,ou,alj,e1]) (kr Z) rfl ?_;refine nY rfl (cf rfl) (by simp+decide only[AB,my P];rfl) ?_;refine nY rfl (cf rfl) vZ ?_;refine WX ((DD (b:=W) rfl rfl rfl gW).trans rfl) ?_;refine WX ((DD (b:=W) rfl rfl rfl gW).trans rfl) ?_;refine WX ((DD (b:=W) rfl rfl rfl gW).trans rfl) ?_;refine nY rfl (cf rfl) Nq ?_;refine Qc rfl (cf rfl) (r:=(.tuple [],Y)) (by simp+decide only[AB,t2,st]) aH aH ?_;refine nY rfl (cf rfl) (by simp+decide only[AB,F];rfl) ?_;refine nY rfl (cf rfl) vZ ?_;refine R5 λ D=>?_
  exact hQ _ Y J0 W fY gY iJ jY rN rE rR (aL D t2) bY gW gW
end
section
variable{b:lB}
variable{ng:R}{T:aM}{H K K':aj}{I J:Im}{u u2 u5:R}{sN sE sR:au}{tn te Rqq:aP}{cs new:aF}{fm:bA}{mem:bG}{Qqq:nv}
noncomputable def lb4:Code:=match Tryz.f4.body with
 |O (.seq _ (.seq _ (.seq _ (.seq _ (.seq _ (.seq (.seq _ (.block _ (.loop c))) _))))))=>c
 |_=>.skip
abbrev LZ:=aK×Sn×aK×aK
structure Jl (I:Im) (x:LZ) (a b c d:au):Prop where
 ra:RP I (.sl (x.1.map c8) none) a
 rb:RP I (.sl (x.2.1.map DM) none) b
 rc:RP I (.sl (x.2.2.1.map c8) none) c
 rd:RP I (.sl (x.2.2.2.map c8) none) d
 d1:∀v∈x.1,tj v
 d2:∀p∈x.2.1,LG p
 d3:∀v∈x.2.2.1,tj v
 d4:∀v∈x.2.2.2,tj v
abbrev yx(a b c d:lB):aF:=[a 0,b 0,oU,c 0,d 0,a 1,b 1,oU,c 1,d 1]
def aJk{c:lB}(u:i<2):uw af 28 (.agg (yx a b c d)) (aW i)=O (.agg [a i,b i,oU,c i,d i]):=by
 match i,u with
 |0,_=>simp only[uw,aeY,abt,Lx];rfl
 |1,_=>simp only[uw,aeY,abt,Lx];rfl
def aAO(g0:Good H)(ht:qU tn te){Xqq:R->LZ}{c:lB}(hX:∀i,i<2->Jl I (Xqq i) (a i) (b i) (c i) (d i))(s:LS H I K J u2 u5 sN sE tn te [] sR cs fm mem)(t2:ai T 2=.ptr u2 0)(t5:ai T 5=.ptr u5 0)(t7:ai T 7=sR)(F:ai T 47=.agg (yx a b c d))(A:ai T 48=aW 0)
 (hE:∀D K' J' Rqq ac aV aT am,LS H I K' J' u2 u5 sN sE tn te Rqq ac aV aT am->Rqq.length=2->(∀(k:R) e,Rqq[k]? =O e->de (aC tn te) 16 [(tn.length:U),(te.length:U),1] k e)->((∀i,i<2->(Xqq i).2.2.2=[])->∀e∈Rqq,¬zO e)->ai D 2=.ptr u2 0->ai D 5=.ptr u5 0->ai D 7=ac->Qqq (.exit 2) D K')
 (hB:∀D K',Fr X H K'->Good K'->ai D 2=.ptr u2 0->ai D 3=.aq->ai D 4=.bool W->dk K' u2 [sN,sE]->Qqq .ret D K'):
 bB af ng (bZ ng) 150 (.loop lb4) T K Qqq:=by
 refine pq (λ mm T K=>∃(i:R) (J:Im) (Rqq:aP) (sR:au) (cs:aF) (fm:bA) (mem:bG),mm+i=2/\Rqq.length=i/\LS H I K J u2 u5 sN sE tn te Rqq sR cs fm mem/\(∀(k:R) e,Rqq[k]? =O e->de (aC tn te) 16 [(tn.length:U),(te.length:U),1] k e)/\((∀i,i<2->(Xqq i).2.2.2=[])->∀e∈Rqq,¬zO e)/\ai T 2=.ptr u2 0/\ai T 5=.ptr u5 0/\ai T 7=sR/\ai T 47=.agg (yx a b c d)/\ai T 48=aW i) ?_ 2 _ _ ⟨0,J,[],sR,cs,fm,mem,rfl,rfl,s,λ k e h=>bk,λ _ e h=>bk,t2,t5,t7,F,A⟩;clear s t2 t5 t7 F A
 rintro mm T K ⟨i,J,Rqq,sR,cs,fm,mem,aY,aQ,s,hR,ap,t2,t5,t7,F,A⟩
 refine aB (iK (H':=K) (λ T=>ai T 49=.bool (decide (i<2))) ?_ ?_)
 ·(repeat ((first|apply fC (cf rfl)|apply jF rfl rfl rfl);simp+decide only[AB,A];rfl))
  exact fX aaV
 intro T1 az k1;obtain⟨a2,a5,a7,ax,aw⟩:=nR k1 t2 t5 t7 F A;refine aB (eX (by rw[fQ,az]) (λ u=>fZ ?_) (λ av=>mY ?_))
 .have u:=jL u;have x:=hX i u;have xJ:=λ v w (h:RP I v w)=>fD s.iJ v w h
  have n1:dh af 23 (a i)=O (ao (gu (Xqq i).1.length)):=by have:=tB x.ra adi;rwa [br]at this
  have n2:dh af 24 (b i)=O (ao (gu (Xqq i).2.1.length)):=by have:=tB x.rb atO;rwa [br]at this
  have n3:dh af 23 (c i)=O (ao (gu (Xqq i).2.2.1.length)):=by have:=tB x.rc adi;rwa [br]at this
  have n4:dh af 23 (d i)=O (ao (gu (Xqq i).2.2.2.length)):=by have:=tB x.rd adi;rwa [br]at this
  refine aB (gR ?_);refine awy (aJk u) a2 a5 ax aw s.g s.b2 s.b5 n1 n2 n3 n4 (mD x.ra) (mD x.rb) (mD x.rc) (mD x.rd) (mD s.rN) (mD s.rE) s.IU (λ D K' K1 f1 o1 g' q2 q3 q4 bb=>?_) λ l1 l2 l3 l4 T2 K2 u9 kp t8 t9 b9 f2 g2 h9=>?_
  .exact hB D K' ((s.fr.trans f1).yJ g0 o1 s.h2) g' q2 q3 q4 bb
  refine ayy g0 ht (s.keep g2 f2) u (kp.2.1.trans a5) t8 t9 b9 x.d1 x.d2 l1 l2 (xJ _ _ x.ra) (xJ _ _ x.rb) λ T3 K3 J3 u10 u11 gn ge kn ke gN gE j3 s3 aK t9 P N b9 Z Y S aI ak ag ah ad ae hg m3 m2=>?_
  have kp:=kp.trans aK;refine aGr g0 ht s3 (kp.2.1.trans a5) t9 P N b9 Z Y S aI ak ag ah ad ae hg m3 m2 x.d3 l3 (fD j3 _ _ (xJ _ _ x.rc)) λ T4 K4 J4 hN a0 iN iE hn he mn me j4 s4 aJ t9 P N b9 Z Y S hm aG aH aD aE=>?_
  have kp:=kp.trans aJ;refine aI4 g0 ht s4 (kp.2.1.trans a5) (kp.2.2.1.trans a7) t9 P N b9 Z Y S (fD j4 _ _ ag) (fD j4 _ _ ah) aG aH (fD j4 _ _ ad) (fD j4 _ _ ae) aD aE hg m3 m2 hm x.d4 l4 (fD j4 _ _ (fD j3 _ _ (xJ _ _ x.rd))) aa λ T5 K5 J5 aA aU aR al e j5 s5 kq ay aN an=>?_
  have aX:=kq.2.2.2.trans (kp.2.2.2.2.trans aw);have ar:∀{t:bj},cY af .add t (aW i) (ao 1)=O (aW (i+1)):=uZ aa;refine aS (H':=K5) (λ T=>ai T 48=aW (i+1)) (iy aX @ar) ?_;intro T6 ab k6;refine⟨mm- 1,aa,i+1,J5,Rqq++[e],aA,aU,aR,al,aa,by rw[kQ,aQ];rfl,s5,λ k y M=>?_,λ hh y hy=>?_,aL k6 (kq.1.trans (kp.1.trans a2)),aL k6 (kq.2.1.trans (kp.2.1.trans a5)),aL k6 ay,aL k6 (kq.2.2.1.trans (kp.2.2.2.1.trans ax)),ab⟩
  .by_cases aO:k<Rqq.length;.rw[AV aO]at M;exact hR k y M
   rw[uH aa]at M
   match aZ:k-Rqq.length,M with
   |0,M=>cases M;exact aN k
   |m+1,M=>cases M
  rcases wa.1 hy with hy|hy
  .exact ap hh y hy
  obtain rfl:=cJ.1 hy;exact an (hh i u)
 .have av:=tM av;exact hE T1 K J Rqq sR cs fm mem s aa hR ap a2 a5 a7
end
section
variable{ng:R}{H K K':aj}{I:Im}
def awa{u:bg}{l:aF}{H:aj}:eL af u 8 l H=u 8 l H:=rfl
def dk.Wm{u:R}{cs:aF}{y:bA}(b:dk K u cs)(fr:Fr y K K')(ne:O u≠y):dk K' u cs:=⟨b.own.keep fr ne,fr.aV _ _ b.aI ne⟩
def H7(u:B zu)(j:R)(tn:aP):Prop:=tn.length=u.length/\∀i x,u[i]? =O x->tn[i]? =O (zt (if i<j then JG x else x))
theorem H7.step{u:B zu}{j:R}{tn:aP}(h:H7 u j tn){x:zu}(hx:u[j]? =O x):H7 u (j+1) (tn.set j ((zt x).set 2 (eB W))):=by
 refine⟨by rw[zB];exact h.1,λ i y A=>?_⟩;rw[apR];by_cases e:j=i;.subst e;rw[hx]at A;cases A;rw[aY Q,aY (by rw[h.1];grind),aY (kF _)];rfl
 rw[h.2 i y A];grind
def H7.done{u:B zu}{tn:aP}(h:H7 u u.length tn):tn=u.map λ x=>zt (JG x):=by
 apply sI;intro i;rw[mu];cases hx:u[i]?;.rw[zC (h.1▸(List.getElem?_eq_none_iff.1 hx))];rfl
 rename_i x;rw[h.2 i x hx,aY (pC.1 hx).1];rfl
theorem exI(K:aj)(Xqq:vH):∃I7:Im,(∀u r,K.ah.get u=O r->¬Xqq r.aI->I7 u=O r)/\∀u r,I7 u=O r->K.ah.get u=O r/\¬Xqq r.aI:=by
 classical
 refine⟨λ u=>match K.ah.get u with|O r=>if Xqq r.aI then X else O r|X=>X,λ u r e h=>?_,λ u r e=>?_⟩;.simp[e,aR h]
 grind
structure ayA (H:aj) (I:Im) (nf:Prop) (r:xe):Prop where
 fr:Fr none H r.2
 g:Good r.2
 v:∃sN sE sl b,r.1=.tuple [.agg [sN,sE],sl,.bool b]/\sN.dm=true/\sE.dm=true/\(b=true->∃J tn te Rqq,bO I J/\bO J r.2.ah.get/\RP J (.sl tn none) sN/\RP J (.sl te none) sE/\RP J (.sl Rqq none) sl/\qU tn te/\SL tn te Rqq/\(nf->∀e∈Rqq,¬zO e))
theorem aC4 (g : Good H) (hI : bO I H.ah.get) {zT zE : Ji} {Y N : au} (pT : ∀ p ∈ zT, P8 p) (pE : ∀ p ∈ zE, P8 p) (r1 : RP I (.sl (zT.map vw) none) Y) (r2 : RP I (.sl (zE.map vw) none) N) {Xqq : R → LZ} {a b c : lB} (hX : ∀ i, i < 2 → Jl I (Xqq i) (a i) (b i) (c i) (d i)) :
    ∃ r, fp af ng (bZ ng) 4 [.agg (Y :: N :: yx a b c d)] H r ∧ ayA H I (∀ i, i < 2 → (Xqq i).2.2.2 = []) r := by
  have aE : ∀ l, (au.agg l).cells = l := fun _ => rfl
  have f1 := iv g (Y :: N :: yx a b c d) true 1
  have g1 := jb g (Y :: N :: yx a b c d) true 1
  have b1 := dk.alloc H (Y :: N :: yx a b c d)
  generalize hA : yx a b c d = A at *
  generalize aJ : alloc H (Y :: N :: A) true 1 = K1 at *
  have bH : K1.ae = H.ae + 1 := by rw [← aJ]; rfl
  have f2 := iv g1 tu true 1
  have g2 := jb g1 tu true 1
  have b2 := dk.alloc K1 tu
  generalize aI : alloc K1 tu true 1 = K2 at *
  have bG : K2.ae = K1.ae + 1 := by rw [← aI]; rfl
  have b1 : dk K2 H.ae (Y :: N :: A) := b1.keep f2
  have hl : (Y :: N :: A).length = 12 := by rw [← hA]; rfl
  have e0 : aQ K2.ah.get H.ae (0 + 0) 1 = O [Y] := b1.rd (by rw [hl]; decide)
  have e1 : aQ K2.ah.get H.ae (0 + 1) 1 = O [N] := b1.rd (by rw [hl]; decide)
  have n1 : dh af 22 Y = O (ao (gu zT.length)) := by grind [tB, adq, HY]
  have n2 : dh af 22 N = O (ao (gu zE.length)) := by grind [tB, adq, HY]
  have d8 : ∀ {a : R}, decide (gu a > 8) = !decide (a ≤ 8) := fun {a} => by
    grind [decide_eq_true, decide_eq_false]
  refine lp Tryz.func4 rfl ?_
  show bB af ng (bZ ng) 150 _ _ _ _
  have a0 : ai (eH [.agg (Y :: N :: A)] 0 .nil) 0 = .agg (Y :: N :: A) := rfl
  refine aB (aS (H' := K2) (fun T => ai T 1 = .ptr H.ae 0 ∧ ai T 2 = .ptr K1.ae 0) (xK a0 aE aJ @YN aI) ?_)
  rintro T1 ⟨t1, t2⟩ k1
  refine aB (aB (iK (H' := K2) (fun T => ai T 27 = .bool (!(decide (zT.length ≤ 8) && decide (zE.length ≤ 8)))) ?_ ?_))
  · by_cases h1 : zT.length ≤ 8 <;> by_cases h2 : zE.length ≤ 8 <;>
    · have v1 := d8 (a := zT.length)
      have v2 := d8 (a := zE.length)
      simp only [h1, h2, adW, adX, ad1, apJ] at v1 v2
      (repeat ((first | apply fC (cf rfl) | apply jF rfl rfl rfl); simp +decide only [AB, t1, ajd, amG, SD e0, SD e1, n1, n2, v1, v2]; rfl))
      exact fX (by simp +decide only [AB, h1, h2]; rfl)
  intro T2 a8 k2
  obtain ⟨a1, a2⟩ := jA k2 t1 t2
  have al := f1.trans f2
  refine eX (by rw [fQ, a8]) (fun h => ?_) (fun h => fZ ?_)
  · obtain ⟨K3, w1, b3, o3, g3⟩ := b2.write g2 (off := 0) (new := [.aq, .aq]) (aZ 2) rfl
    have s3 : dD af K2 34 (.ptr K1.ae 0) (.agg [.aq, .aq]) = O K3 := by rw [LH rfl]; exact w1
    have b3 : dk K3 K1.ae [.aq, .aq] := b3
    have r3 : aQ K3.ah.get K1.ae 0 2 = O [.aq, .aq] := b3.rd (aZ 2)
    refine aB (aS (H' := K3) (fun T => ai T 3 = .aq ∧ ai T 4 = .bool W) (jG a2 @aJl s3) ?_)
    rintro T3 ⟨a3, a4⟩ k3
    have a2 := aL k3 a2
    refine iZ ⟨aw, [.agg [.aq, .aq], .aq, .bool W], ?_, al.yJ g o3 aa, g3, _, _, _, _, rfl, rfl, rfl, fun h => bk⟩
    show eG af K3.ah.get T3 [.cell 2 34, .tmp 3, .tmp 4] = _
    grind [eG, Aj]
  simp only [apS, bq, ayK] at h
  obtain ⟨h1, h2⟩ := h
  have bu : bO I K2.ah.get := LP hI al
  obtain ⟨⟨rv, K3⟩, F8, f3, g3, v, w, nodes, ab, fl, M, ay, hL, hW, Z, hM, l1, l6, e5, bl, bo⟩ := aGA (ng := ng) (aae := bZ ng) g2 bu pT pE r1 r2 aa aa
  simp only at f3 g3 ay hL hW
  subst ay
  have c8 : bZ ng 8 [Y, N] K2 = O (.agg [v, w], K3) := nW rfl F8
  have aD := hL.lt g3
  have ov := hL.one
  obtain ⟨bs, cs, hO, az⟩ := hL
  have ow : w.dm = true := by
    obtain ⟨_, e, _, h⟩ := aeI hW
    cases e
    exact h
  have bF := f3.ae
  obtain ⟨I7, aM, aK⟩ := exI K3 fun f => f < K2.ae + 2 ∨ fl = O f
  have ba : cx I7 4 (nodes.map zt) cs := RZ aw9 aM hO.1 az
  have bd : RP I7 (.sl (ab.map LX) none) w := Uy aHl (S := fun f => f < M) (fun u r e hn => aM u r e (fun h => by
    grind [Nat.lt_of_lt_of_le])) hW
  have ht := arp l1 l6 e5 bl bo
  have f4 := iv g3 tu true 1
  have g4 := jb g3 tu true 1
  have b5 := dk.alloc K3 tu
  generalize bt : alloc K3 tu true 1 = K4 at *
  obtain ⟨K5, w5, b5, o5, g5⟩ := b5.write g4 (off := 0) (new := [v, w]) (aZ 2) bP
  have s5 : dD af K4 34 (.ptr K3.ae 0) (.agg [v, w]) = O K5 := by rw [LH rfl]; exact w5
  have b5 : dk K5 K3.ae [v, w] := b5
  refine aB (iK (H' := K5) (fun T => ai T 5 = .ptr K3.ae 0) ?_ ?_)
  · (repeat ((first | apply fC (cf rfl) | apply jF rfl rfl rfl); simp +decide only [AB, a1, ajd, amG, SD e0, SD e1, mG, ou, awa, c8, YN, aE, bt, s5]; rfl))
    exact fX gW
  intro T3 t5 k3
  obtain ⟨a1, a2⟩ := jA k3 a1 a2
  have aH : cm K5 4 nodes.length v cs fl := by
    have h4 := cm.nQ hO f4
    obtain ⟨q1, q2 | ⟨x, r, rfl, o, q3, q4, q5, q6⟩⟩ := h4
    · exact ⟨q1, .inl q2⟩
    · have hx : x ≠ K3.ae := fun e => by
        obtain ⟨_, ⟨q, _⟩ | ⟨y, r', q, o', _⟩⟩ := hO
        · cases q
        · cases q
          have := (g3.wf _ _ o'.row).1
          omega
      exact ⟨q1, .inr ⟨x, r, rfl, ⟨by rw [o5.o x hx]; exact o.row, o.ro, by rw [o5.f]; exact o.mem⟩, q3, q4, q5, q6⟩⟩
  have bf : aQ K5.ah.get K3.ae (0 + 0) 1 = O [v] := b5.rd (cB : (0 + 0) + 1 ≤ 2)
  refine aB (aB (iK (H' := K5) (fun T => ai T 36 = ao (gu nodes.length) ∧ ai T 37 = aW 0) ?_ ?_))
  · (repeat ((first | apply fC (cf rfl) | apply jF rfl rfl rfl); simp +decide only [AB, t5, anI, aiK bf, aH.read.dh adp]; rfl))
    exact fX ⟨gW, Nq⟩
  rintro T4 ⟨a7, a6⟩ k4
  refine gR (pq (fun mm T K => ∃ (i : R) (ad : aF) (tn : aP), mm + i = nodes.length ∧ cm K 4 nodes.length v ad fl ∧ cx I7 4 tn ad ∧ H7 nodes i tn ∧ Fr fl K5 K ∧ Good K ∧
    ai T 1 = .ptr H.ae 0 ∧ ai T 2 = .ptr K1.ae 0 ∧ ai T 5 = .ptr K3.ae 0 ∧ ai T 36 = ao (gu nodes.length) ∧ ai T 37 = aW i) ?_ nodes.length _ _ ⟨0, cs, nodes.map zt, aa, aH, ba, ⟨F1, fun i x hx => bP⟩, Fr.refl _ _, g5, aL k4 a1, aL k4 a2, aL k4 t5, a7, a6⟩)
  have ag : O K3.ae ≠ fl := fun e => by have := aD _ e.symm; omega
  rintro mm T K ⟨i, ad, tn, bI, ak, bc, ac, D, gk, u1, u2, u5, ar, ap⟩
  have am := b5.Wm D ag
  have ax : aQ K.ah.get K3.ae (0 + 0) 1 = O [v] := am.rd (cB : (0 + 0) + 1 ≤ 2)
  refine aB (aS (H' := K) (fun T => ai T 38 = .bool (decide (i < nodes.length))) (jG ar ap @CP) ?_)
  intro T5 a5 k5
  obtain ⟨v1, v2, v5, aU, an⟩ := nR k5 u1 u2 u5 ar ap
  refine aB (eX (by rw [fQ, a5]) (fun Z => fZ ?_) (fun aC => mY ?_))
  · have Z := jL Z
    have hx : nodes[i]? = O nodes[i] := eg Z
    have bh : tn[i]? = O (zt nodes[i]) := by
      rw [ac.2 i _ hx, aR (KR _)]
    have aA : ∀ {t : bj}, cY af .add t (aW i) (ao 1) = O (aW (i + 1)) := uZ aa
    obtain ⟨x, off, K', y1, y2, y3, y4, y5⟩ := cm.amW (P := af) gk ak (i := i) Z (k := 2) cB (c := .bool W) rfl adp Ko rfl
    have s4 : dD af K 4 (.ptr x (off + 2)) (.bool W) = O K' := by rw [ME]; exact y2
    refine aB (gR (aB (aS (H' := K) (fun T => ai T 6 = aW i) an ?_)))
    intro T6 t6 k6
    have x5 := aL k6 v5
    refine aS (H' := K') (fun T => True) (zA x5 t6 @anI (aiK ax) y1 @avJ s4) ?_
    intro T7 _ k7
    have aT := aL k7 (aL k6 an)
    refine aS (H' := K') (fun T => ai T 37 = aW (i + 1)) (iy aT @aA) ?_
    intro T8 av k8
    have q : ∀ {t : R} {a : au}, ai T5 t = a → ai T6 t = ai T5 t → ai T7 t = ai T6 t → ai T8 t = ai T7 t → ai T8 t = a := fun h a b c => c.trans (b.trans (a.trans h))
    exact ⟨mm - 1, aa, i + 1, _, _, aa, y3, aoF (by simp [RP, jP]) cB bc (by rw [ak.1, ac.1]) bh, ac.step hx, D.trans y4, y5, q v1 (k6 1 rfl) (k7 1 rfl) (k8 1 rfl), q v2 (k6 2 rfl) (k7 2 rfl) (k8 2 rfl), q v5 (k6 5 rfl) (k7 5 rfl) (k8 5 rfl), q aU (k6 36 rfl) (k7 36 rfl) (k8 36 rfl), av⟩
  · have aC := tM aC
    have bp : i = nodes.length := aa
    subst bp
    obtain rfl := ac.done
    have F : ∀ {u : R}, u < K2.ae → O u ≠ fl := fun hu e => by have := bs _ e.symm; omega
    have aO := (((b2.keep f3).keep f4).qW o5 aa).Wm D (F aa)
    have bw := (((b1.keep f3).keep f4).qW o5 aa).Wm D (F aa)
    have aN : Fr none H K := by
      have f5 : Fr none H K5 := ((al.trans f3).trans f4).yJ g o5 aa
      exact ⟨fun u r e _ => D.row u r (f5.row u r e aw) (F (by have := (g.wf u r e).2; omega)), fun f m e _ => D.aV f m (f5.aV f m e aw) (F (by have := (g.mem f m e).1; omega)), fI f5.ae D.ae⟩
    have leI : bO I (mP K K1.ae K3.ae) := fun u r e => by
      have hu := (g.wf u r (hI u r e)).1
      unfold mP
      rw [aR aa]
      exact aN.row u r (hI u r e) aw
    have bg : bO I7 (mP K K1.ae K3.ae) := fun u r e => by
      obtain ⟨w1, w2⟩ := aK u r e
      have hu := (g3.wf u r w1).1
      have bD : u ≠ K1.ae := fun e2 => by
        have h2 := (b2.keep f3).own.row
        grind
      unfold mP
      rw [aR aa]
      refine D.row u r ?_ (fun e2 => w2 (.inr e2.symm))
      rw [o5.o u aa]
      exact f4.row u r w1 aw
    have jK : bO (mP K K1.ae K3.ae) K.ah.get := fun u r e => by
      unfold mP at e
      split at e
      · cases e
      · exact e
    have n2 : mP K K1.ae K3.ae K1.ae = none := by grind [mP]
    have n5 : mP K K1.ae K3.ae K3.ae = none := by grind [mP]
    have q1 : RP (mP K K1.ae K3.ae) (.sl (nodes.map fun x => zt (JG x)) none) v := by
      obtain ⟨hl, ⟨_, h0, _⟩ | ⟨x, r, rfl, o, bi, bJ, bE, bn⟩⟩ := ak
      · omega
      · have bC : x ≠ K1.ae := fun e => by
          subst e
          have := aO.own.row
          rw [o.row] at this; grind
        have bA : x ≠ K3.ae := fun e => by
          subst e
          have := am.own.row
          rw [o.row] at this; cases this
          exact ag bn.symm
        have hr : mP K K1.ae K3.ae x = O r := by
          unfold mP
          rw [aR aa]
          exact o.row
        simp only [RP, br]
        exact .inr ⟨x, 0, none, r, 4, rfl, hr, .inr ⟨rfl, bi⟩, aa, by grind [Ap]⟩
    have s0 : LS H I K (mP K K1.ae K3.ae) K1.ae K3.ae v w (nodes.map fun x => zt (JG x)) (ab.map LX) [] .aq [] none [] :=
      ⟨gk, aN, leI, jK, aO, am, n2, n5, aa, aa, aa, q1, fD bg _ _ bd, ⟨⟨rfl, .inl ⟨rfl, rfl, rfl⟩⟩, fun f e => bk, fun x hx => bk, fun _ _ _ _ e => bk, fun f e => bk⟩, fun y hy => bk, by rw [C8]⟩
    generalize mP K K1.ae K3.ae = J at *
    refine aB (aS (H' := K) (fun T => ai T 7 = .aq) trivial ?_)
    intro T6 t7 k6
    have x1 := aL k6 v1
    have rA : aQ K.ah.get H.ae (0 + 2) 10 = O A := by
      rw [bw.rd (by rw [hl]; decide), ← hA]
      rfl
    refine aB (aB (iK (H' := K) (fun T => ai T 47 = .agg A ∧ ai T 48 = aW 0) ?_ ?_))
    · (repeat ((first | apply fC (cf rfl) | apply jF rfl rfl rfl); simp +decide only [AB, x1, aav, azW rA]; rfl))
      exact fX ⟨gW, Nq⟩
    rintro T7 ⟨aY, aX⟩ k7
    refine gR (aAO g ht hX s0 (aL k7 (aL k6 v2)) (aL k7 (aL k6 v5)) (aL k7 t7) (by rw [aY, hA]) aX (fun T' K' J' Rqq a9 ad bL bz s' bK aG bm y2 y5 y7 => ?_) fun T' K' bv g' y2 y3 y4 b' => ?_)
    · show bB af ng (bZ ng) 150 _ T' K' _
      refine aB (aFX g ht s' ⟨aa, aG⟩ y2 y5 y7 fun T2 bx J2 bb ff gg ii jj rN rE rR z2 zb z3 z4 => ?_)
      refine iZ ⟨aw, [.agg [v, w], a9, .bool bb], ?_, ff, gg, _, _, _, _, rfl, ov, ow, fun _ => ⟨J2, _, _, Rqq, ii, jj, rN, rE, rR, ht, ⟨aa, aG⟩, bm⟩⟩
      have rd := zb.rd (off := 0) (n := 2) (aZ 2)
      show eG af bx.ah.get T2 [.cell 2 34, .tmp 3, .tmp 4] = _
      simp only [eG, z2, z3, z4, Aj rd]
      rfl
    · refine ⟨aw, [.agg [v, w], .aq, .bool W], ?_, bv, g', _, _, _, _, rfl, ov, ow, fun h => bk⟩
      have rd := b'.rd (off := 0) (n := 2) (aZ 2)
      show eG af K'.ah.get T' [.cell 2 34, .tmp 3, .tmp 4] = _
      simp only [eG, y2, y3, y4, Aj rd]
      rfl
end
end
end Go.Abs
