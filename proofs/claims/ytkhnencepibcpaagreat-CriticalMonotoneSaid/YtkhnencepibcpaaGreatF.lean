/- Walks on the value machine; library functions in memory. -/
import Derived.Test.YtkhnencepibcpaaGreatB
import Derived.Test.YtkhnencepibcpaaGreatD
import Derived.Test.YtkhnencepibcpaaGreatE
import Derived.Lib.SlicesCompact
set_option linter.all false
set_option maxRecDepth 100000
open Array renaming replicate->vj
open Bool renaming and_self->ayI,false->W,true->V
open Go.Proofs.Tryz renaming func144->ay6,underlying154->ajs,underlying270->adM,underlying3->avn,underlying31->adp,underlying50->pv
open Int renaming ofNat->gu
open List renaming append_assoc->auB,eq_nil_of_length_eq_zero->adA,getElem?_eq_getElem->HF,getElem?_eq_some_iff->aa3,getElem_mem->ak4,length_append->abY,map_congr_left->acL,map_drop->aye,map_take->ayd,mem_cons_of_mem->aqQ,mem_or_eq_of_mem_set->anF,range->vv,replicate->ef,set_eq_take_append_cons_drop->ac5,singleton_append->aqi,take_of_length_le->PN
open Nat renaming beq->gr,ble->th,ble_eq_true_of_le->hP,reduceAdd->et,reduceBEq->eF
open Option renaming toList_some->aqM,none->X,some->O
open _root_ renaming Bool->mi,Int->U,List->B,Nat->R,Option->gw,reduceIte->ky,rfl->Q,trivial->sp
namespace Go.Abs
noncomputable section
open Go Go.Proofs
variable{H' K:aj}{I:Im}{P:aA}{S:gC}{T T':aM}{Uqq:VT}{Z:iq}{a s:au}{args cs xs:aF}{b:lY}{bef:jQ}{aae:eE}{d:fV}{e:rV}{es:aP}{fm:bA}{g:fE}{gl:bH}{hi:U}{i id0 j k kk m n off sz:R}{im l:aK}{aag:dV}{p:Prop}{r:xe}{src:lC}{t:bj}{v:ak}{y:eK}{α σ:Type}
section
variable{Bqq C:CC}{TT:R->σ->VT}{b:sj}{d:vN}{l:B α}
variable{P:aA}{gl:bH}{aae:eE}{n:R}{T:VT}{st:aG}
abbrev aO(l:aK):ak:=.sl (l.map λ n=>[eI n]) X
abbrev eW(a:BitVec 64):ak:=.sc (.int .u64 (a.toNat:U))
structure El where
 ed:mi
 ty:U
 fr:U
 to:U
 ev:U
def El.c(x:El):be:=[eB x.ed,eI x.ty,eI x.fr,eI x.to,eI x.ev]
structure Oc where
 ru:U
 no:aK
 ed:aK
def Oc.c(x:Oc):be:=[eI x.ru,aO x.no,aO x.ed]
structure Ed where
 ty:U
 fr:U
 to:U
abbrev vm:=B Ed
def Ed.c(x:Ed):be:=[eI x.ty,eI x.fr,eI x.to]
structure RU where
 nm:ak
 lN:aK
 lE:vm
 x3:ak
 x4:ak
 x5:ak
 rN:aK
 rE:vm
 x8:ak
 x9:ak
 wL:ak
 kN:aK
 kE:aK
 iN:aK
 iE:aK
 JE:ak
 H9:ak
 KF:ak
 IA:ak
 HG:ak
 Iq:ak
 HW:ak
 Jc:ak
 JI:ak
 HD:ak
abbrev gS(l:vm):ak:=.sl (l.map Ed.c) X
def RU.c(r:RU):be:=[r.nm,aO r.lN,gS r.lE,r.x3,r.x4,r.x5,aO r.rN,gS r.rE,r.x8,r.x9,r.wL,aO r.kN,aO r.kE,aO r.iN,aO r.iE,r.JE,r.H9,r.KF,r.IA,r.HG,r.Iq,r.HW,r.Jc,r.JI,r.HD]
structure Net where
 Rqq:B RU
 E:B El
 dX:B Oc
 C:B (BitVec 64)
def Net.c(N:Net)(a b c:bA):be:=[.sl (N.Rqq.map RU.c) X,.sl (N.E.map El.c) a,.sl (N.dX.map Oc.c) b,.sl (N.C.map λ x=>[eW x]) c]
def jC{σ:Type}(f:R->σ->gw (σ⊕jH)):R->R->σ->gw (σ⊕jH)
 |0,_,s=>O (.inl s)
 |k+1,i,s=>match f i s with
  |O (.inl u)=>jC f k (i+1) u
  |O (.inr r)=>O (.inr r)
  |X=>X
def uh{len:R}{ST:σ->aG}{Xqq:σ->jH}{f:R->σ->gw (σ⊕jH)}
 (J:∀i s,cO P gl aae n C (TT i s) (ST s)=wO (cO P gl aae n C) (cO P gl aae n Bqq (TT i s) (ST s)))
 (u:∀i s,i<len->match f i s with
  |some (.inl y)=>cO P gl aae n Bqq (TT i s) (ST s)=O (.normal,TT (i+1) y,ST y)
  |some (.inr r)=>cO P gl aae n Bqq (TT i s) (ST s)=O r/\r.1≠.normal
  |none=>True)
 (F:∀s,cO P gl aae n Bqq (TT len s) (ST s)=O (Xqq s)/\(Xqq s).1≠.normal):
 ∀k i s r,i+k=len->jC f k i s=O r->cO P gl aae n C (TT i s) (ST s)=O (match r with|.inl y=>Xqq y|.inr r=>r):=by
 have D:∀{r},r.1≠.normal->wO (cO P gl aae n C) (O r)=O r:=by
  intro r M;obtain⟨e⟩:=r;cases e with
  |normal=>exact(M Q).elim
  |exit id=>rfl
  |ret=>rfl
 intro k;induction k with
 |zero=>
  intro i s r hi h;cases h;have:i=len:=aa;subst this;rw[J,(F s).1];exact D (F s).2
 |succ k K=>
  intro i s r hi h;have u:=u i s aa;rw[jC]at h;rw[J];split at h;.rename_i y A;rw[A]at u;exact u▸K _ y r aa h
  .rename_i N A;rw[A]at u;cases h;exact u.1▸D u.2
  cases h
def uD{α σ:Type}(f:α->σ->gw (σ⊕jH)):B α->σ->gw (σ⊕jH)
 |[],s=>O (.inl s)
 |x::l,s=>match f x s with
  |O (.inl u)=>uD f l u
  |O (.inr r)=>O (.inr r)
  |X=>X
def awA{f:α->σ->gw (σ⊕jH)}{g:R->σ->gw (σ⊕jH)}(A:∀i s x,l[i]? =O x->g i s=f x s):∀k i s,i+k=l.length->jC g k i s=uD f (l.drop i) s:=by
 intro k;induction k with
 |zero=>
  intro i s hi;rw[OA aa];rfl
 |succ k y=>
  intro i s hi;have h:i<l.length:=aa;rw[uL h,jC,uD,A i s _ (eg h)];cases f _ s;.rfl
  rename_i r;cases r;.rename_i u;exact y _ u aa
  rename_i r;rfl
def aor{ST:σ->aG}{Xqq:σ->jH}{f:α->σ->gw (σ⊕jH)}
 (D:∀i s,cO P gl aae n C (TT i s) (ST s)=wO (cO P gl aae n C) (cO P gl aae n Bqq (TT i s) (ST s)))
 (A:∀i s x,i<l.length->l[i]? =O x->match f x s with
  |O (.inl u)=>cO P gl aae n Bqq (TT i s) (ST s)=O (.normal,TT (i+1) u,ST u)
  |O (.inr r)=>cO P gl aae n Bqq (TT i s) (ST s)=O r/\r.1≠.normal
  |X=>True)
 (y:∀s,cO P gl aae n Bqq (TT l.length s) (ST s)=O (Xqq s)/\(Xqq s).1≠.normal):
 ∀s r,uD f l s=O r->cO P gl aae n C (TT 0 s) (ST s)=O (match r with|.inl u=>Xqq u|.inr r=>r):=by
 intro s r h;refine uh (f:=λ i s=>match l[i]?with|O x=>f x s|X=>X) D ?_ y l.length 0 s r aa ?_;.intro i s hi;have e:=eg hi;exact e▸A i s _ hi e
 .rw[awA (λ i s x e=>by rw[e]) _ 0 s aa];exact h
def dGo(P:aA)(gl:bH)(aae:eE)(n:R)(bef:jQ)(l:jh)(i:R)(T:VT)(d:fV)(r:VR):yZ->sT
 |O Z=>nD P gl aae n bef l (i+1) Z (fk n (kI r.src T) d r.v) r.st
 |X=>X
def Pn(P:aA)(gl:bH)(aae:eE)(n:R)(bef:jQ)(l:jh)(i:R)(Z:iq)(T:VT)(d:fV):kX->sT
 |O r=>dGo P gl aae n bef l i T d r (nM (bef.getD i []) i Z r.e)
 |X=>X
def aCk{bef:jQ}{d:R}{c:CO}{l:jh}{i:R}{Z:iq}:nD P gl aae n bef (mM d c::l) i Z T st=Pn P gl aae n bef l i Z T (O d) (bw P gl aae T st (O d) c):=by
 rw[nD];cases bw P gl aae T st _ c;.rfl
 rename_i r;cases nM (bef.getD i []) i Z r.e<;>rfl
def aHM{bef:jQ}{c:CO}{l:jh}{i:R}{Z:iq}:nD P gl aae n bef (E c::l) i Z T st=Pn P gl aae n bef l i Z T X (bw P gl aae T st X c):=by
 rw[nD];cases bw P gl aae T st X c;.rfl
 rename_i r;cases nM (bef.getD i []) i Z r.e<;>rfl
def aAm{b:bG}{i:R}{es:lT}{al an:mi}{rs:L8}:nM b i ⟨[],es,al,an,rs⟩ (.read X)=O ⟨[],es,al,an,rs⟩:=rfl
def aDh{b:bG}{i j:R}{pd:bG}{es:lT}{an:mi}{rs:L8}:nM b i ⟨j::pd,es,W,an,rs⟩ (.read X)=O ⟨j::pd,es,W,an,(i,X,es.length)::rs⟩:=rfl
def aBM{b:bG}{i:R}{x:sj}{pd:bG}{es:lT}{al:mi}{rs:L8}:nM b i ⟨pd,es,al,W,rs⟩ (.read (O x))=O ⟨pd,es,al,W,(i,O x,es.length)::rs⟩:=rfl
def nE(i:R)(d:vN)(Z:iq):mi->yZ
 |V=>O {Z with bM:=i::Z.bM,es:=(i,d)::Z.es,al:=W}
 |W=>X
def aDQ{b:bG}:nM b i Z (.eO d)=nE i d Z (FU b Z.bM):=by rw[nM];cases FU b _<;>rfl
def aw0{pd:bG}{es:lT}{al an:mi}{rs:L8}:nE i d ⟨pd,es,al,an,rs⟩ V=O ⟨i::pd,(i,d)::es,W,an,rs⟩:=rfl
def ah9(T:VT)(st:aG):mi->qe
 |V=>O (T,st)
 |W=>X
def Nn(bef:jQ):sT->qe
 |O (Z,T,st)=>ah9 T st (vC bef Z.es Z.rs)
 |X=>X
def aoV(P:aA)(gl:bH)(aae:eE)(n:R)(l:jh)(bef:jQ)(T:VT)(st:aG):qe:=wy bef (oG P gl aae n bef st l 0 ⟨[],[],W,W,[]⟩ T T st)
def au2{x:sT}:wy bef x=Nn bef x:=by
 cases x;.rfl
 rename_i r;cases vC bef r.1.es r.1.rs<;>rfl
def aq5{bef:jQ}{l:jh}:yU P gl aae n l bef T st=Re (Nn bef (nD P gl aae n bef l 0 ⟨[],[],W,W,[]⟩ T st)) (aoV P gl aae n l bef T st):=by unfold yU aoV;rw[au2]
def aHq{x:VT×aG}{y:qe}:Re (O x) y=O x:=rfl
def aAy{b:bG}{i:R}{pd:bG}{es:lT}{al an:mi}{rs:L8}{d:vN}(h:FU b pd=V):nM b i ⟨pd,es,al,an,rs⟩ (.eO d)=O ⟨i::pd,(i,d)::es,W,an,rs⟩:=by rw[aDQ,h,aw0]
def aDl:vN->mi
 |.clean=>V
 |_=>W
def Zi{ok:kl}(h:∀k,ok k=V):∀{es:lT} {up:bA},pG bef j ok es up=V
 |[],up=>by simp[pG,h]
 |e::es,up=>by simp[pG,h,Zi h]
def MV:lT->mi
 |[]=>V
 |e::es=>aDl e.2&&MV es
def adB:∀{es:lT},MV es=V->lA b m k es=V
 |[],_=>rfl
 |(i,d)::es,h=>by
  rw[MV,bq]at h;cases d with
  |clean=>rw[lA,AD,OC,Ex,adB h.2]
  |box _ _=>cases h.1
  |all=>cases h.1
def aAv{bef:jQ}{j m:R}{b:sj}{es:lT}(h:MV es=true):pG bef j (Dx (O b) m es) es X=true:=Zi λ _=>adB h
def dQ(P:aA)(gl:bH)(aae:eE)(n:R)(bef:jQ)(l:jh)(i:R)(Z:iq)(T:VT)(st:aG)(d:Tmp)(b:mi)(r:kX):ak->sT
 |.sc (.bool u)=>if u=b then Pn P gl aae n bef l i Z T (O d) r else nD P gl aae n bef l (i+1) Z (fk n T (O d) .un) st
 |.un=>nD P gl aae n bef l (i+1) Z (fk n T (O d) .un) st
 |_=>X
def aG5{bef:jQ}{d t:R}{b:mi}{c:CO}{l:jh}{i:R}{Z:iq}:nD P gl aae n bef (Qqq d t b c::l) i Z T st=dQ P gl aae n bef l i Z T st d b (bw P gl aae T st (O d) c) (mq T t):=by
 rw[nD,zH];cases mq T t with
 |sc a=>
  cases a with
  |bool u=>cases u<;>cases b<;>first|rfl
  |_=>rfl
 |_=>rfl
def FT(b:sj):lT->mi
 |[]=>V
 |e::es=>AD b e.2&&FT b es
def abd:∀{es:lT},FT b es=V->lA b m k es=V
 |[],_=>rfl
 |(i,d)::es,h=>by rw[FT,bq]at h;rw[lA,h.1,OC,Ex,abd h.2]
def arV{bef:jQ}{j m:R}{b:sj}{es:lT}(h:FT b es=true):pG bef j (Dx (O b) m es) es X=true:=Zi λ _=>abd h
def axL{a b c:ak}:pL V 3 [a,b,c] 0=O (.agg [a,b,c]):=rfl
def aA7{a b c d e:ak}:pL V 5 [a,b,c,d,e] 0=O (.agg [a,b,c,d,e]):=rfl
def arl{a b c x y z:ak}:eR [a,b,c] 0 [x,y,z]=[x,y,z]:=rfl
def aIE{a x:ak}:eR [a] 0 [x]=[x]:=rfl
def CM:lT->bG
 |[]=>[]
 |e::es=>e.1::CM es
def aob:∀{es:lT},(CM es).length=es.length
 |[]=>rfl
 |_::es=>fP _ (aob)
def Lr(bef:jQ)(j m:R):bG->bA->mi
 |[],up=>(match up with|O e=>(bef.getD j []).elem e|X=>W)||gr 0 m
 |e::es,up=>((match up with|O u=>(bef.getD j []).elem u|X=>W)||(bef.getD e []).elem j||gr (es.length+1) m)&&Lr bef j m es (O e)
def aoe{ok:kl}(u:ok m=V):∀{es:lT} {up:bA},Lr bef j m (CM es) up=V->pG bef j ok es up=V
 |[],up,h=>by
  simp only[CM,Lr,pG,rP]at h⊢;rcases h with h|h
  .exact .inl h
  right;rw[cI h];exact u
 |e::es,up,h=>by
  simp only[CM,Lr,pG,rP,bq,aob]at h⊢;refine⟨?_,aoe u h.2⟩;rcases h.1 with h|h
  .exact .inl h
  right;rw[cI h];exact u
def aJf{bef:jQ}{j m:R}{b:lY}{es:lT}(h:Lr bef j m (CM es) X=true):pG bef j (Dx b m es) es X=true:=by
 refine aoe ?_ h;cases b;.exact apI m
 rename_i b;exact akR
def arK{a b c:ak}{l:be}:pL V 2 (a::b::c::l) 1=O (.agg [b,c]):=rfl
def axE{n:R}{cs:be}(h:(cs.length==n)=V):pL V n cs 0=O (.agg cs):=by
 have h:=by simpa using h
 subst h;simp[pL,yA]
def aqH{cs v:be}(h:(cs.length==v.length)=V):eR cs 0 v=v:=by simp[eR,<-by simpa using h]
theorem JR{new:aP}{o:bA}(y:es.length+new.length<=1073741824)(u:km sz new=V):qt st sz (.sl es (O sz)) (.sl new o)=O (.sl (es++new) (O sz)):=by show(if(sz=sz\/_)/\es.length+new.length<=1073741824/\km sz new=V then _ else _)=_;rw[aY ⟨.inl Q,y,u⟩]
def jx{z:be}(h1:v.cells.all ak.data=V)(h2:(v.cells.length==sz)=V):sF sz (ef 1 z) [(0,v)]=O [v.cells.map eZ]:=by rw[sF,h1,h2];rfl
def ajR{z:be}{w:ak}(h1:v.cells.all ak.data=V)(h2:(v.cells.length==sz)=V)(y:w.cells.all ak.data=V)(u:(w.cells.length==sz)=V):sF sz (ef 2 z) [(0,v),(1,w)]=O [v.cells.map eZ,w.cells.map eZ]:=by simp only[sF,h1,h2,y,u];rfl
def VB0:=(aD @rg.eq_1 (aD @Tp.eq_1 (aD @Fk (aD @alY (aD @acv (aD @Yd (aD @aiy (aD @anB (aD @Si (aD @akG (aD @Ys (aD @ayF (aD @aCq (aD @Uq.eq_1 (aD @Uq.eq_2 (aD @ajw (aD @avL (aD @au6 (aD @L0.eq_1 (aD @qX.eq_1 (aD @qX.eq_2 (aD @kC.eq_1 (aD @kC.eq_2 (aD @avk (aD @YV (aD @tG.eq_1 (aD @tG.eq_2 (aD @auY (aD @fk.eq_2 (aD @fk.eq_1 (aD @sC.eq_1 (aD @sC.eq_2 (aD @aC6 (aD @Pe.eq_1 (aD @PD.eq_1 (aD @cQ.eq_1 (aD @pF.eq_1 (aD @auh (aD @aJ4 (aD @aqS (aD @cq.eq_1 (aD @cq.eq_2 (aD @cq.eq_3 (aD @cq.eq_4 (aD @cq.eq_6 (aD @cC.eq_1 (aD @vK.eq_1 (aD @azx (aD @cCp.eq_1 (aD @ql.eq_1 (aD @aIt (aD @vF.eq_1 (aD @oS.eq_1 (aD @as6 (aD @oB.eq_1 (aD @oB.eq_2 (aD @cP.eq_1 (aD @auz (aD @dg.eq_1 (aD @awE (aD @asE (aD @arZ (aD @avT (aD @asG (aD @dg.eq_2 (aD @at7 (aD @eZ.eq_1 (aD @auu (aD @aHn (aD @arI (aD @aJs (aD @xF.eq_1 (aD @aei (aD @aeL (aD @avs (aD @aGW (aD @aHz (aD @ak.cells.eq_1 (aD @aDL (aD @aze (aD @aHX (aD @atc (aD @auK (aD @Fw.eq_1 (aD @Fw.eq_2 (aD @En.eq_1 (aD @En.eq_2 (aD @EF.eq_1 (aD @EF.eq_2 (aD @Hj.eq_1 (aD @Hj.eq_3 (aD @pL.eq_2 (aD @akg (aD @alF (aD @ahX (aD @alC (aD @OU (aD @R3 (aD @aEp (aD @bw.eq_1 (aD @bw.eq_2 (aD @bw.eq_3 (aD @bw.eq_6 (aD @bw.eq_7 (aD @bw.eq_8 (aD @bw.eq_12 (aD @bw.eq_13 (aD @bw.eq_14 (aD @bw.eq_16 (aD @bw.eq_17 (aD @cLr.eq_1 (aD @aGU (aD @aym (aD @aFC (aD @cLp.eq_1 (aD @avt (aD @cu.eq_1 (aD @tv.eq_1 (aD @tR.eq_1 (aD @aBv (aD @abj (aD @nB.eq_1 (aD @axI (aD @aB3 (aD @axi (aD @qy.eq_1 (aD @qy.eq_2 (aD @qy.eq_3 (aD @qy.eq_4 (aD @qy.eq_5 (aD @auO (aD @arj (aD @aCP (aD @qd.eq_1 (aD @qd.eq_2 (aD @wz.eq_1 (aD @wz.eq_2 (aD @xO.eq_1 (aD @xO.eq_2 (aD @aEy (aD @arN (aD @aBy (aD @aBl (aD @aHQ (aD @ak.data.eq_1 (aD @ak.data.eq_2 (aD @avm (aD @aCL (aD @aF6 (aD @arh (aD @aDj (aD @cSb.eq_1 (aD @Ye.eq_1 (aD @ar5 (aD @aIO (aD @aIu (aD @awx (aD @aGI (aD @aJQ (aD @cFr.eq_1 (aD @aJo (aD @oV.eq_1 (aD @azg (aD @afS.eq_1 (aD @aCV (aD @rQ.eq_1 (aD @avc (aD @aA1 (aD @po.eq_1 (aD @po.eq_2 (aD @asK (aD @vo.eq_1 (aD @vo.eq_2 (aD @aJ3 (aD @aqq (aD @auJ (aD @aAr (aD @axq (aD @aFs (aD @ar9 (aD @aAd (aD @au5 (aD @aHa (aD @aDc (aD @cRd.eq_1 (aD @azL (aD @cRv.eq_1 (aD @at9 (aD @Cf.eq_1 (aD @axh (aD @aBG (aD @cBs.eq_1 (aD @aw6 (aD @cSt.eq_1 (aD @aA5 (aD @cAq.eq_1 (aD @aFE (aD @axg (aD @aq5 (aD @aHq (aD @nD.eq_1 (aD @aCk (aD @aHM (aD @Pn.eq_1 (aD @dGo.eq_1 (aD @nM.eq_1 (aD @aAm (aD @aDh (aD @aBM (aD @nM.eq_4 (aD @Nn.eq_1 (aD @ah9.eq_1 (aD @vC.eq_1 (aD @vC.eq_2 (aD @aAy (aD @aAv (aD @rY.eq_2 (aD @aG5 (aD @dQ.eq_1 (aD @dQ.eq_2 (aD @cQ.eq_2 (aD @FT.eq_1 (aD @FT.eq_2 (aD @AD.eq_1 (aD @AD.eq_2 (aD @arV (aD @axL (aD @aA7 (aD @arl (aD @aIE (aD @aJf (aD @CM.eq_1 (aD @CM.eq_2 (aD @arK (aD @axE @aqH)))))))))))))))))))))))))))))))))))))))))))))))))))))))))))))))))))))))))))))))))))))))))))))))))))))))))))))))))))))))))))))))))))))))))))))))))))))))))))))))))))))))))))))))))))))))))))))))))))))))))))))))))))))))))))))))))))))))))))
def VB:=aD @nA.{0,0} (aD @KN.{0,0} (aD @KO.{0} (aD @OD.{0} (aD @rO.{0} (aD @tP.{0} (aD @cond_true.{1} (aD @adZ.{1} (aD @ny.{0} (aD @Oz.{0} (aD @UN.{0} (aD @List.any_nil.{0} (aD @adY (aD @Ex (aD @Bool.and_false (aD @ad0 (aD @OE (aD @Bool.false_or (aD @Bool.true_or (aD @OC (aD @ad1 (aD @apJ (aD @apI.{0} (aD @sK (aD @Ew (aD @adW (aD @adX (aD @AX.{0} (aD @mG.{0} (aD @ou.{0} (aD @kI.eq_1 (VB0)))))))))))))))))))))))))))))))
def aeW(a:BitVec 64):BitVec.ofInt 64 (a.toNat:U)=a:=BitVec.ofNat_toNat _ _|>.trans (BitVec.setWidth_eq a)
def ayZ(a:BitVec 64):IntKind.wrap .u64 (a.toNat:U)=(a.toNat:U):=by have e:IntKind.wrap .u64 _=a.toNat%18446744073709551616:=rfl;exact e▸Int.emod_eq_of_lt aa aa
end
def uz:bG->R->mi
 |[],_=>W
 |a::l,b=>gr a b||uz l b
def bsL:bG:=[3,4,5,6,8,10,88,144,149,155,168,171,217,226,237,241,251,256,258,311,338,340,346,381]
def bset(g:ck):Bool:=uz bsL g
abbrev VW(gl:bH)(base:fi):eE:=vω af pol gl bset base
section
variable{P:aA}{gl:bH}{aae:eE}{n:R}{T:VT}{st:aG}{base:fi}
def eC(l:aK):be:=l.map eI
def aqb{l:aK}:(eC l).length=l.length:=br _
theorem aFg{x:U}(h:l[i]? =O x):(eC l)[i]? =O (eI x):=by grind[eC]
def afc{d k:R}:∀{l:aK},qd d k (eC l)=V
 |[]=>rfl
 |_::l=>by show(V&&qd d k (eC l))=V;rw[afc];rfl
theorem aEJ:∀{l:aK},(eC l).all ak.cell=V
 |[]=>rfl
 |_::l=>by grind[eC,ak.cell]
theorem Iu:∀{l:aK},(eC l).all ak.data=V
 |[]=>rfl
 |_::l=>by grind[eC,ak.data]
theorem Fv{x:U}(h:i<l.length):eR (eC l) i [eI x]=eC (l.set i x):=by grind[eR,eC,ac5,ayd,aye]
theorem axY{m:R}{x:U}:(ef m [eI x]).flatten=eC (ef m x):=by
 unfold eC;induction m with
 |zero=>rfl
 |succ m u=>grind
def On:(eC l).map (λ c=>[eZ c])=l.map λ n=>[eI n]:=by unfold eC;rw[lP];rfl
def eD(l:iu):be:=l.map eB
abbrev xS(l:iu):ak:=.sl (l.map λ n=>[eB n]) X
def aGj{l:iu}:(eD l).length=l.length:=br _
theorem aB6{l:iu}{x:mi}(h:l[i]? =O x):(eD l)[i]? =O (eB x):=by grind[eD]
def agz{d k:R}:∀{l:iu},qd d k (eD l)=V
 |[]=>rfl
 |_::l=>by show(V&&qd d k (eD l))=V;rw[agz];rfl
theorem awn:∀{l:iu},(eD l).all ak.cell=V
 |[]=>rfl
 |_::l=>by grind[eD,ak.cell]
theorem apy:∀{l:iu},(eD l).all ak.data=V
 |[]=>rfl
 |_::l=>by grind[eD,ak.data]
theorem agh{l:iu}{x:mi}(h:i<l.length):eR (eD l) i [eB x]=eD (l.set i x):=by grind[eR,eD,ac5,ayd,aye]
theorem aD6{m:R}{x:mi}:(ef m [eB x]).flatten=eD (ef m x):=by
 unfold eD;induction m with
 |zero=>rfl
 |succ m u=>grind
def aHV{l:iu}:(eD l).map (λ c=>[eZ c])=l.map λ n=>[eB n]:=by unfold eD;rw[lP];rfl
def cMk(T:VT)(st:aG)(k:R)(z:be)(x y:fN):kX:=
 oB x λ a=>oB y λ b=>match a,b with
  |.sc (.int .i64 (.ofNat n)),.sc (.int .i64 (.ofNat m))=>if n=m/\n<=1073741824 then oB (iX T st k (ef n z).flatten) λ u=>O ⟨.ms st.up.length k n 1,[],u,.new V⟩else X
  |_,_=>X
def awF{k:R}{z:be}{l c:eK}:bw P gl aae T st (O k) (.mk z l c)=cMk T st k z (cq gl T l) (cq gl T c):=rfl
def Tm{z:be}(h:m<=1073741824):cMk T st k z (O (eI (m:U))) (O (eI (m:U)))=Cf k (.ms st.up.length k m 1) [] (iX T st k (ef m z).flatten):=by show(if m=m/\m<=1073741824 then oB _ _ else X)=_;rw[aY ⟨Q,h⟩];cases iX T st k _<;>rfl
theorem xX{d len:R}(h:i<len):rD (O 1) X (.ms d k len 1) (eI (i:U))=O (.ptr d k i):=by show(if i<len/\1=1 then O _ else X)=_;grind
def fzC(D k n:R)(s:ak)(st:aG)(T':VT):mi->qe
 |V=>O (T',{st with cur:=np k st.cur})
 |W=>X
theorem awK{k:R}:uX [k] T st=qV k T st:=by grind[uX]
theorem IS{cs:be}(h:lk st.cur k=O cs)(y:cs.all ak.data=V)(u:(cs.map λ c=>[eZ c])=es):
 qV k T st=fzC st.up.length k cs.length (.sl es X) st (zq st.up.length k cs.length (.sl es X) T) (wz st.up.length k (zq st.up.length k cs.length (.sl es X) T)&&xO st.up.length k (np k st.cur)):=by
 grind[qV,fzC]
def aDb{D k m:R}{s:ak}:zq D k m s []=[]:=rfl
def ayT{D k m i:R}{s v:ak}{T:VT}:zq D k m s ((i,v)::T)=(i,AK D k m s v)::zq D k m s T:=rfl
def aEc{D k m:R}{s:ak}{a:au}:AK D k m s (.sc a)=.sc a:=rfl
def aBX{D k m:R}{s:ak}{es:aP}{o:bA}:AK D k m s (.sl es o)=.sl es o:=rfl
def ayk{D k m d u o:R}{s:ak}:AK D k m s (.ptr d u o)=.ptr d u o:=rfl
def avD{sz d k l z:R}:xF sz (.ms d k l z)=.ms d k l z:=rfl
def aDF{a b:ak}:yM 0 (.bp [a,b])=O (dg a):=rfl
def aqg{a b:ak}:yM 1 (.bp [a,b])=O (dg b):=rfl
def aEX{a b c:ak}:yM 0 (.bp [a,b,c])=O (dg a):=rfl
def ayH{a b c:ak}:yM 1 (.bp [a,b,c])=O (dg b):=rfl
def aG4{a b c:ak}:yM 2 (.bp [a,b,c])=O (dg c):=rfl
def az8{d:fV}{f:ck}{args:wH}:bw P gl aae T st d (.LR f args)=AT T d (cK P aae st (O (.fn f [])) (vK gl T args)):=rfl
def XI(k D n:R):gw aG->kX
 |O u=>O ⟨.ms D k n 1,[],u,.zg⟩
 |X=>X
theorem aqu{k:R}{es:aP}{src:lC}:AT T (O k) (O ⟨.sl es (O 1),src,st,.eO .clean⟩)=XI k st.up.length es.length (iX T st k es.flatten):=by grind[AT,XI]
def C7(base:fi):Prop:=∀n:R,n<=100000->base 171 [.sl [[eI (-1)]] X,eI (n:U)]=O (.sl (ef n [eI (-1)]) (O 1))
def YT:ly af 171=true:=aH
def ade(u:C7 base)(hm:m<=100000):VW gl base 171 [.sl [[eI (-1)]] X,eI (m:U)] S=O (.sl (ef m [eI (-1)]) (O 1),S,W):=sZ Q (u m hm) Q
def oJ:=(aD @az8 (aD @XI.eq_1 (aD @aqu (aD @mw.{0} (aD @avD (aD @aDF (aD @aqg (aD @aEX (aD @ayH (aD @aG4 (aD @ahw (aD @awK (aD @fzC.eq_1 (aD @cZ.eq_1 (aD @aDb (aD @ayT (aD @AK.eq_1 (aD @aEc (aD @aBX (aD @ayk (aD @awF (aD @aqb (aD @afc (aD @aEJ (aD @Iu (aD @axY (aD @aGj (aD @agz (aD @awn (aD @apy (aD @aD6 @uM)))))))))))))))))))))))))))))))
def ND(m:R)(i:R)(s:aK):IL:=if s.length=m then O (.inl (s.set i (i:U)))else X
def bI(m:R):aK:=(vv m).map λ j:R=>(j:U)
theorem akp:∀k i (s:aK),i+k=m->s.length=m->jC (ND m) k i s=O (.inl (s.take i++(vv k).map λ j=>((i+j:R):U)))
 |0,i,s,h,u=>by show O (Sum.inl s)=_;grind[PN]
 |k+1,i,s,h,u=>by
  have e:ND m i s=O (.inl (s.set i (i:U))):=by unfold ND;rw[aY u]
  simp only[jC,e];rw[akp k (i+1) _ aa (by rw[zB];exact u)]
  congr 2
  rw[apL,nA,lP,UG,UP];have:(s.take i).set i (i:U)=s.take i:=aKh FC;grind[auB,aqM,aqi,List.cons.injEq,acL]
theorem pO(h:p:=by nofun):p:=h
theorem aqP(hm:m<=100000):VW gl base 317 [eI (m:U)] S=O (aO (bI m),S,W):=by
 have hL:=uh (P:=af) (gl:=gl) (aae:=VW gl base) (n:=18) (len:=m) (C:=acA) (Bqq:=MG) (f:=ND m)
  (TT:=λ i _=>[(3,.ms 0 6 m 1),(8,eI m),(9,eI i)]) (ST:=λ s=>(ez [(6,eC s)] []))
  (Xqq:=λ s=>(.exit 0,[(3,.ms 0 6 m 1),(8,eI m),(9,eI m),(10,eB W)],(ez [(6,eC s)] []))) ?_ ?_ ?_ m 0 (ef m 0) _ aa (akp m 0 _ aa (mw ..))
 .simp at hL;have hu:(List.map (λ j:R=>(j:U)) (vv m))=bI m:=rfl;rw[hu]at hL;have F:∀{T:VT},qV 6 T (ez [(6,eC (bI m))] [])=_:=λ {T}=>IS Q Iu On
  have A:(bI m).length=m:=by unfold bI;simp
  refine uY (S':=[]) (w:=W) atB Q Q ?_;simp+decide only[jd,aja,VB,lk,bU,↓ky,eF,et,oJ,alJ,ahx,ajI,afy,Tm (aa:m<=1073741824),hL,F,A,uM]
 .intro i s;rw[asm];simp+decide only[VB,lk,bU,↓ky,eF,et]
 .intro i s hi;have D:((i:U)<(m:U))=True:=mU aa;unfold ND;by_cases u:s.length=m;.rw[aY u];have J:i<s.length:=aa;have y:(decide (i+1<=s.length))=true:=jR aa;simp+decide only[MG,VB,lk,bU,↓ky,eF,et,Yt,ajU,afM,ajV,oJ,D,xX hi,Fv J,y,nZ (aa:i<=4611686018427387904)]
  rw[aR u];trivial
 intro s;refine⟨?_,pO⟩;simp+decide only[MG,VB,lk,bU,↓ky,eF,et,Yt,uN]
end
section
variable{P:aA}{ng:R}{aae:bg}{I:Im}{H:aj}
theorem Bi(D:RP I (.sl es X) a)(A:∀e∈es,e.length=sz)(F:bO I H.ah.get):
 lenOf a=O es.length/\∃cs,er H.ah.get sz es.length a=O cs/\cs.length=es.length*sz/\cx I sz es cs/\(a=.aq\/a=.eY\/∃v off lim,a=.slice v off es.length lim):=by
 rcases D with⟨rfl,rfl|rfl⟩|⟨v,off,lim,r,u,rfl,h1,h2,y,K⟩
 .exact⟨Q,[],Q,aw,by simp[cx],.inl Q⟩
 .exact⟨Q,[],Q,aw,by simp[cx],.inr (.inl Q)⟩
 .have J:=F _ _ h1;refine⟨Q,?_⟩;cases es;.refine⟨[],?_,aw,by simp[cx],.inr (.inr ⟨_,_,_,Q⟩)⟩;simp at y;simp only[er,tP,adS,aQ,J,sK,cD y,jM]
  rename_i e es;have M:u=sz:=by rw[cx]at K;grind
  grind[er,hP,aQ]
theorem aGg{H:aj}{v:R}{r:Row}{mem:bG}(h1:H.ah.get v=O r)(h2:r.ro=W)(D:H.aV.get r.aI=O mem)(hm:mem=[v])(y:r.cells=[]):∃H',write H v 0 []=O H'/\(∀u,H'.ah.get u=H.ah.get u)/\H'.aV=H.aV/\H'.ae=H.ae:=by
 refine⟨{H with ah:=(oq H.ah v (r.start+0) (r.start+0+0) [v]).set v (O {r with cells:=eV r.cells 0 []})},?_,λ u=>?_,Q,Q⟩;.grind[write,hP]
 have A:oq H.ah v (r.start+0) (r.start+0+0) [v]=H.ah:=by simp only[oq,(aw:gr v v=V)]
 rw[A,Tr.jg];split;.rename_i e;subst e;rw[h1,y];have:eV _ 0 []=[]:=rfl;rw[this,<-y]
 rfl
def av4{H:aj}(g:Good H)(h1:∀u,H'.ah.get u=H.ah.get u)(h2:H'.aV=H.aV)(y:H'.ae=H.ae):Good H':=⟨λ u r e=>by rw[h1]at e;exact y▸g.wf u r e,λ f mem u r a b c=>by rw[h2]at a;rw[h1]at c;exact g.aI f mem u r a b c,λ f mem a=>by rw[h2]at a;exact y▸g.mem f mem a⟩
def auG{H:aj}(h1:∀u,H'.ah.get u=H.ah.get u)(h2:H'.aV=H.aV)(y:H'.ae=H.ae):Fr X H H':=⟨λ u r e _=>by rw[h1];exact e,λ f m e _=>h2▸e,y▸aZ _⟩
theorem ZQ{H:aj}(g:Good H){bytes:R}{new:aF}(Y:0<sz)(hn:new.length=n*sz)(S:n*bytes<=lg)(ab:n<=lg):
 ∃u H' ex,gM (alloc H [] true sz) sz bytes (.slice H.ae 0 0 X) n new=O (.slice u 0 n X,H')/\H.ae<=u/\H'.ah.get u=O ⟨new,u,0,ex,false,sz⟩/\H'.aV.get u=O [u]/\Fr X H H'/\Good H':=by
 have K:=jb g [] true sz;have M:=iv g [] true sz;have y:=(mK H [] true sz).row;have A:(alloc H [] true sz).aV.get H.ae=O [H.ae]:=PH;have P:jy (alloc H [] true sz).ah.get sz (.slice H.ae 0 0 X)=O (true,0):=by have S:gr sz sz=true:=aw;simp only[jy,y,S,tP,UE,Nat.zero_div]
 cases n;.have D:new=[]:=mF (by simpa using hn);subst D;obtain⟨H',w1,J,F,N⟩:=aGg y Q A Q Q;refine⟨H.ae,H',true,?_,aZ _,by rw[J];exact y,F▸A,M.trans (auG J F N),av4 K J F N⟩;grind[gM,lenOf,hP]
 .rename_i n;have aa:th (n+1) 0=false:=rfl;have Z:er (alloc H [] true sz).ah.get sz 0 (.slice H.ae 0 0 X)=O []:=by simp only[er,adS,aQ,y,sK,tP,jM]
  refine⟨(alloc H [] true sz).ae,alloc _ new false sz,false,?_,M.ae,(mK _ new false sz).row,PH,M.trans (iv K new false sz),jb K new false sz⟩;grind[gM,lenOf,hP,ayI]
def akO:cY af .eql 50 .aq .aq=O (.bool V)/\cY af .eql 50 .eY .aq=O (.bool W)/\(∀v off n lim,cY af .eql 50 (.slice v off n lim) .aq=O (.bool W)):=by simp[cY,nX]
theorem mZ:Tryz.prog.info? 3=O Tryz.t3:=aH
theorem auV:∃z,fW af 3=O z/\z.cells.length=1:=by
 refine⟨(match fW af 3 with|O z=>z|X=>.fq),?_,aH⟩;have h:(match fW af 3 with|O _=>true|X=>W)=true:=aH;grind
def atE:oW af 50 0 (O [])=O ([],1,O 0):=aH
def ack{H:aj}{x:au}{new:aF}(A:lenOf x=O n)(D:er H.ah.get 1 n x=O new):iC af H [50,50] [s,x]=gM H 1 8 s n new:=by obtain⟨z,y,u⟩:=auV;have h1:Tryz.t3.size=1:=rfl;have h2:Tryz.t3.bytes=8:=rfl;simp+decide [iC,mZ,y,u,h1,h2,A,D]
theorem gW(h:p:=by simp+decide only[AB]):p:=h
theorem agA(g:Good H)(P:bO I H.ah.get)(K:RP I (.sl es X) a)(D:∀e∈es,e.length=1)(hl:es.length<=1000000):
 ∃r,fp af ng aae 144 [a] H r/\Fr X H r.2/\Good r.2/\((es=[]/\r.1=.aq/\r.2=H)\/∃u cells ex,H.ae<=u/\r.1=.slice u 0 es.length X/\r.2.ah.get u=O ⟨cells,u,0,ex,W,1⟩/\r.2.aV.get u=O [u]/\cells.length=es.length*1/\cx I 1 es cells):=by
 obtain⟨h1,cs,h2,Z,h4,h5⟩:=Bi K D P;refine lp ay6 Q ?_;show bB af ng aae 8 _ _ _ _;have a0:ai (eH [a] 0 .nil) 0=a:=rfl;refine aB (iK (H':=H) (λ _=>True) ?_ ?_)
 ·(repeat (first|(apply fC (cf rfl);(rfl))))
  exact fX sp
 intro T1 _ k1;have b0:=aL k1 a0;obtain⟨n1,n2,n3⟩:=akO;have A:∃b,cY af .eql 50 a .aq=O (.bool b)/\(b=V->a=.aq):=by grind
 obtain⟨b,hb,N⟩:=A;refine aB (aB (iK (H':=H) (λ T=>ai T 4=.bool b) ?_ ?_))
 ·(repeat (first|(apply fC (cf rfl);(simp+decide only[AB,b0,hb];rfl))))
  exact fX gW
 intro T2 t4 k2;have c0:=aL k2 b0;refine eX (by rw[fQ,t4]) (λ hy=>?_) (λ hn=>?_)
 .have:=N hy;subst this;refine aB (iK (H':=H) (λ T=>ai T 2=.aq) ?_ ?_)
  ·(repeat (first|(apply fC (cf rfl);(rfl))))
   exact fX gW
  intro T3 J _;refine iZ ⟨aw,[_],Q,Fr.refl _ _,g,.inl ⟨?_,?_,Q⟩⟩;.grind[lenOf,Option.some.injEq,adA]
  simp only[qc,J]
 .refine fZ ?_;obtain⟨u,H',ex,w1,w2,w3,w4,w5,w6⟩:=ZQ (H:=H) g (sz:=1) (bytes:=8) (n:=es.length) (new:=cs) cB Z mE mE;have F:=iv g [] V 1
  have M:er (alloc H [] V 1).ah.get 1 es.length a=O cs:=by
   obtain⟨q1,cs',q2,q3,q4,_⟩:=Bi K D (I:=I) (H:=alloc H [] V 1) (λ u r e=>F.row u r (P u r e) aw);rw[q2]
   have ab:er H.ah.get 1 es.length a=O cs':=by
    revert q2;rcases h5 with rfl|rfl|⟨v,off,lim,rfl⟩
    .exact id
    .exact id
    simp only[er,cD (aZ _)];rcases K with⟨_,h|h⟩|⟨v',S,Y,r',aa,e1,e2,_⟩
    .cases h
    .cases h
    cases e1;have x1:=P _ _ e2;have x2:=F.row _ _ x1 aw;grind[aQ,id]
   grind
  have y:=ack (H:=alloc H [] V 1) (s:=.slice H.ae 0 0 X) h1 M;rw[w1]at y;refine aB (iK (H':=H') (λ T=>ai T 2=.slice u 0 es.length X) ?_ ?_)
  ·(repeat (first|(apply fC (cf rfl);(simp+decide only[AB,c0,atE,y];rfl))))
   exact fX gW
  intro T3 J _;exact iZ ⟨aw,[_],Q,w5,w6,.inr ⟨u,cs,ex,w2,by simp only[qc,J],w3,w4,Z,h4⟩⟩
def ayQ:cY af .eql 51 .aq .aq=O (.bool V)/\cY af .eql 51 .eY .aq=O (.bool W)/\(∀v off n lim,cY af .eql 51 (.slice v off n lim) .aq=O (.bool W)):=by simp[cY,nX]
def aCA:Tryz.prog.info? 95=O Tryz.t95:=aH
theorem auT:∃z,fW af 95=O z/\z.cells.length=3:=by
 refine⟨(match fW af 95 with|O z=>z|X=>.fq),?_,aH⟩;have h:(match fW af 95 with|O _=>true|X=>W)=true:=aH;grind
def axQ:oW af 51 0 (O [])=O ([],3,O 0):=aH
def aI2{H:aj}{x:au}{new:aF}(A:lenOf x=O n)(D:er H.ah.get 3 n x=O new):iC af H [51,51] [s,x]=gM H 3 24 s n new:=by obtain⟨z,y,u⟩:=auT;have h1:Tryz.t95.size=3:=rfl;have h2:Tryz.t95.bytes=24:=rfl;simp+decide [iC,aCA,y,u,h1,h2,A,D]
theorem aEe(g:Good H)(P:bO I H.ah.get)(K:RP I (.sl es X) a)(D:∀e∈es,e.length=3)(hl:es.length<=1000000):
 ∃r,fp af ng aae 258 [a] H r/\Fr X H r.2/\Good r.2/\((es=[]/\r.1=.aq/\r.2=H)\/∃u cells ex,H.ae<=u/\r.1=.slice u 0 es.length X/\r.2.ah.get u=O ⟨cells,u,0,ex,W,3⟩/\r.2.aV.get u=O [u]/\cells.length=es.length*3/\cx I 3 es cells):=by
 obtain⟨h1,cs,h2,Z,h4,h5⟩:=Bi K D P;refine lp Tryz.func258 Q ?_;show bB af ng aae 8 _ _ _ _;have a0:ai (eH [a] 0 .nil) 0=a:=rfl;refine aB (iK (H':=H) (λ _=>True) ?_ ?_)
 ·(repeat (first|(apply fC (cf rfl);(rfl))))
  exact fX sp
 intro T1 _ k1;have b0:=aL k1 a0;obtain⟨n1,n2,n3⟩:=ayQ;have A:∃b,cY af .eql 51 a .aq=O (.bool b)/\(b=V->a=.aq):=by grind
 obtain⟨b,hb,N⟩:=A;refine aB (aB (iK (H':=H) (λ T=>ai T 4=.bool b) ?_ ?_))
 ·(repeat (first|(apply fC (cf rfl);(simp+decide only[AB,b0,hb];rfl))))
  exact fX gW
 intro T2 t4 k2;have c0:=aL k2 b0;refine eX (by rw[fQ,t4]) (λ hy=>?_) (λ hn=>?_)
 .have:=N hy;subst this;refine aB (iK (H':=H) (λ T=>ai T 2=.aq) ?_ ?_)
  ·(repeat (first|(apply fC (cf rfl);(rfl))))
   exact fX gW
  intro T3 J _;refine iZ ⟨aw,[_],Q,Fr.refl _ _,g,.inl ⟨?_,?_,Q⟩⟩;.grind[lenOf,Option.some.injEq,adA]
  simp only[qc,J]
 .refine fZ ?_;obtain⟨u,H',ex,w1,w2,w3,w4,w5,w6⟩:=ZQ (H:=H) g (sz:=3) (bytes:=24) (n:=es.length) (new:=cs) cB Z mE mE;have F:=iv g [] V 3
  have M:er (alloc H [] V 3).ah.get 3 es.length a=O cs:=by
   obtain⟨q1,cs',q2,q3,q4,_⟩:=Bi K D (I:=I) (H:=alloc H [] V 3) (λ u r e=>F.row u r (P u r e) aw);rw[q2]
   have ab:er H.ah.get 3 es.length a=O cs':=by
    revert q2;rcases h5 with rfl|rfl|⟨v,off,lim,rfl⟩
    .exact id
    .exact id
    simp only[er];rcases K with⟨_,h|h⟩|⟨v',S,Y,r',aa,e1,e2,_⟩
    .cases h
    .cases h
    cases e1;have x1:=P _ _ e2;have x2:=F.row _ _ x1 aw;grind[aQ,id]
   grind
  have y:=aI2 (H:=alloc H [] V 3) (s:=.slice H.ae 0 0 X) h1 M;rw[w1]at y;refine aB (iK (H':=H') (λ T=>ai T 2=.slice u 0 es.length X) ?_ ?_)
  ·(repeat (first|(apply fC (cf rfl);(simp+decide only[AB,c0,axQ,y];rfl))))
   exact fX gW
  intro T3 J _;exact iZ ⟨aw,[_],Q,w5,w6,.inr ⟨u,cs,ex,w2,by simp only[qc,J],w3,w4,Z,h4⟩⟩
abbrev eIo(l:aK):ak:=.sl (l.map λ n=>[eI n]) (O 1)
variable{gl:bH}{G:Gh}
theorem WS(y:cH G (eJ []) H)(A:0<sz){f:ck}(F:pg aae)(D:fp P ng aae f xs H r)(h1:Fr X H r.2)(h2:Good r.2)
 (h:(es=[]/\r.1=.aq/\r.2=H)\/∃u cells ex,H.ae<=u/\r.1=.slice u 0 es.length X/\r.2.ah.get u=O ⟨cells,u,0,ex,false,sz⟩/\r.2.aV.get u=O [u]/\cells.length=es.length*sz/\cx G.I sz es cells):
 iV 0 G [] H (O r) (.sl es (O sz)) [] false:=by
 have J:=yl F D;obtain⟨a⟩:=r;rcases h with⟨rfl,e1,e2⟩|⟨u⟩
 .subst e1;exact yX y h2 h1 J (by simp[aJ,RP]) λ j es sz c e e2=>by grind[ak.cells,au.cells]
 grind[alO,Ap,RQ]
theorem MQ(h:bu ρ0 G.I [v] xs):∃a,xs=[a]/\aJ ρ0 G.I v a:=by simp[bu]at h;grind
theorem azR(u:cH G (eJ []) H)(A:l.length<=1000)(y:bu ρ0 G.I [aO l] xs)(F:pg aae):∃r,fp af ng aae 144 xs H r/\iV 0 G [] H (O r) (eIo l) [] false:=by
 obtain⟨a,rfl,h1⟩:=MQ y;obtain⟨r⟩:=agA (ng:=ng) (aae:=aae) u.gd u.gI h1 (λ e D=>by grind) FZ
 grind[WS]
theorem aFZ(u:cH G (eJ []) H)(D:es.length<=1000)(y:∀e∈es,e.length=3)(A:bu ρ0 G.I [.sl es X] xs)(F:pg aae):∃r,fp af ng aae 258 xs H r/\iV 0 G [] H (O r) (.sl es (O 3)) [] false:=by obtain⟨a,rfl,h1⟩:=MQ A;obtain⟨r⟩:=aEe (ng:=ng) (aae:=aae) u.gd u.gI h1 y aa;grind[WS]
end
section
variable{bef:oh}{objs0:kH}
variable{P:aA}{ng n:R}{aae:bg}
def Hb(bef:oh):dM->R->bG->bG->mi
 |[],_,_,_=>V
 |o::l,i,rs,bM=>match dK o.op with
  |0=>Hb bef l (i+1) rs bM
  |1=>(match bM with|[]=>Hb bef l (i+1) (i::rs) bM|_=>W)
  |2=>W
  |_=>qw (bef i) bM&&(qw (bef i) rs&&Hb bef l (i+1) rs (i::bM))
theorem Fs{aag:dM}:∀{l:dM} {i:R} {rs bM:bG} {S:jf} {T T':aM} {H H':aj},Hb bef l i rs bM=V->(∀a∈S.bM,a∈bM)->(∀r∈S.rs,r.1∈rs)->(bM=[]->H.ah=objs0)->
 (∀r∈S.rs,dY P ng r.2.1 objs0.get r.2.2.1=O r.2.2.2)->(∀r∈S.rs,∀e∈S.es,tb (bef e.1) r.1=V)->(∀e∈S.es,e.1∈bM)->gv P ng aae n aag l T H=O (T',H')->
 ∃M,kx P ng aae n aag bef l i S T H=O (M,T',H')/\(∀r∈M.rs,dY P ng r.2.1 objs0.get r.2.2.1=O r.2.2.2)/\(∀r∈M.rs,∀e∈M.es,tb (bef e.1) r.1=V)
 |[],i,rs,bM,S,T,T',H,H',_,_,_,_,D,h5,_,h=>by cases h;exact⟨S,Q,D,h5⟩
 |o::l,i,rs,bM,S,T,T',H,H',u,h1,h2,K,D,h5,J,h=>by
  rw[fR]at h;rw[BM];unfold Hb at u;cases Y:cn aag T o
  .rw[Y]at h;rcases Na _ with y|y|y|y
   .rw[y]at u;exact Fs u h1 h2 K D h5 J h
   .rw[y]at u;cases bM;.exact Fs u h1 (λ r Z=>cV _ (h2 r Z)) K D h5 J h
    rename_i a b;cases u
   .rw[y]at u;cases u
   rw[y]at u;simp at u;exact Fs u.2.2 (λ a F=>cV _ (h1 a F)) h2 (nofun) D h5 (λ e he=>cV _ (J e he)) h
  rw[Y]at h;cases A:bR P ng aae T H _;.rw[A]at h;cases h
  rename_i r;rw[A]at h;simp only at h⊢;rcases Na _ with y|y|y|y
  .rw[y]at u;rw[acO y];refine Fs u h1 h2 (λ e=>?_) D h5 J h;rw[<-K e];simp[bR,y]at A;unfold iG at A;split at A<;>cases A;rfl
  .rw[y]at u;rw[aci y];cases bM
   .have N:dY P ng T H.ah.get o.op=O r.1/\r.2=H:=by rw[bR]at A;unfold iG at A;grind
    refine Fs u h1 (λ x hx=>?_) (λ _=>N.2▸(K Q)) (λ x hx=>?_) (λ x hx e he=>?_) J h
    .rcases cg.1 (hx)with rfl|hx
     .exact dJ ..
     exact cV _ (h2 x hx)
    .rcases cg.1 (hx)with rfl|hx
     .grind
     exact D x hx
    rcases cg.1 (hx)with rfl|hx
    .cases J e he
    exact h5 x hx e he
   rename_i a b;cases u
  .rw[y]at u;cases u
  rw[y]at u;simp at u;rw[Uh y (tW.2 λ a F=>tW.1 u.1 a (h1 a F))];refine Fs u.2.2 (λ a F=>?_) h2 (nofun) D (λ x hx e he=>?_) (λ e he=>?_) h
  .rcases cg.1 (F)with rfl|F
   .exact dJ ..
   exact cV _ (h1 a F)
  .rcases cg.1 (he)with rfl|he
   .exact tW.1 u.2.1 _ (h2 x hx)
   exact h5 x hx e he
  rcases cg.1 (he)with rfl|he
  .exact dJ ..
  exact cV _ (J e he)
theorem Wf{o:Op}{v:au}:∀{es:vM} {up:bA},dY P ng T objs0.get o=O v->(∀e∈es,tb (bef e.1) j=V)->uE P ng bef objs0 j T o v es up=V
 |[],up,h0,_=>by show((match up with|O e=>tb _ e|X=>W)||mX P ng T _ o v)=V;simp[mX,h0,JK]
 |e::es,up,h0,h=>by show(((match up with|O u=>tb _ u|X=>W)||tb _ j||mX P ng T _ o v)&&uE P ng bef objs0 j T o v es _)=V;rw[Wf h0 λ u y=>h u (cV _ y),h e (dJ ..)];simp
theorem asO{H:aj}(y:Hb (eA aag) aag.toList 0 [] []=true)(h:gv P ng aae n aag.toList aag.toList T H=O (T',H')):kK P ng aae n aag T H true=O (T',H'):=by
 obtain⟨S,h1,h2,A⟩:=Fs (S:=⟨[],[],[]⟩) y (nofun) (λ a u=>bk) (λ _=>rfl) (λ a u=>bk) (λ a u=>bk) (nofun) h;refine Mk ?_;rw[h1,pQ]
 have:∀rs,(∀r∈rs,dY P ng r.2.1 H.ah.get r.2.2.1=O r.2.2.2)->(∀r∈rs,∀e∈S.es,tb (eA aag e.1) r.1=true)->wK P ng (eA aag) H.ah S.es rs=true:=by
  intro rs;induction rs with
  |nil=>intro _ _;rfl
  |cons r rs D=>grind[MH,Wf]
 rw[this _ h2 A]
theorem Rb{H:aj}{Qqq:nv}{id:R}(Rqq:Ju)(u:Hb (eA aag) aag.toList 0 [] []=V)(h:∃T',gv P ng aae n aag.toList aag.toList T H=O (T',H')/\Rqq T')(y:∀T',Rqq T'->(∀t,ee aag.toList t=V->ai T' t=ai T t)->Qqq .normal T' H'):bB P ng aae n (.region id aag V) T H Qqq:=by grind[lR,asO,DY]
end
section
variable{v:R}
variable{ng:R}{aae:bg}
theorem RI{c:au}(h:i<cs.length):eV cs i [c]=cs.set i c:=by grind[eV,ac5]
theorem cm.I5{H:aj}(g:Good H)(h:cm H 1 n s cs fm)(hi:i<n){c:au}(M:c.dm=V){e:bj}{j:TypeInfo}(F:P.underlying t=O (.slice e))(J:P.info? e=O j)(u:j.size=1):
 ∃v off H',(∀k,iL P t s (.int k (.ofNat i))=O (.ptr v off))/\write H v off [c]=O H'/\cm H' 1 n s (cs.set i c) fm/\Fr fm H H'/\Good H':=by
 obtain⟨h1,⟨rfl,rfl,_⟩|⟨v,r,rfl,o,y,Z,D,rfl⟩⟩:=h;.omega
 .obtain⟨H',S,A,K,Y,N⟩:=nK g o (off:=i) (new:=[c]) gD (by simp[M]);refine⟨v,0+i*1,H',λ k=>?_,?_,⟨by simpa using h1,.inr ⟨v,_,Q,A,y,?_,?_,Q⟩⟩,K,N⟩;.simp only[iL,F,J,cD hi,u]
  .grind
  .grind[RI]
  grind[RI,List.take_set]
theorem vA{c:au}(h:aQ g v off 1=O [c]):cr af g 3 (.ptr v off)=O c:=by grind[xm,cr,avn,mZ]
def anx{H:aj}{k:U}:dD af H 3 (.ptr v off) (ao k)=write H v off [ao k]:=by have u:Tryz.t3.size=1:=rfl;simp+decide only[dD,mZ,u,au.cells];rfl
abbrev ints(l:aK):aF:=l.map λ n=>ao n
def alA{i:U}(h: -1000000<=i/\i<=1000000):cY af .sub t (ao i) (ao 1)=O (ao (i- 1)):=by show O (au.int .i64 (IntKind.wrap .i64 (i- 1)))=_;rw[FH xT]
def ay8{i:U}(h: -1000000<=i/\i<=1000000):cY af .add t (ao i) (ao 1)=O (ao (i+1)):=by rw[Ir xT]
def Jk(l u:aK)(i:R):Prop:=u.length=l.length/\∀k,k<l.length->u[k]? =if k<i\/l.length<=k+i then l[l.length- 1-k]?else l[k]?
theorem Jk.step{l u:aK}{i j:R}(h:Jk l u i)(J:j+i+1=l.length)(A:i<j){x y:U}(hx:u[j]? =O x)(D:u[i]? =O y):Jk l ((u.set i x).set j y) (i+1):=by obtain⟨h1,h2⟩:=h;refine⟨by simp[h1],λ k F=>?_⟩;grind
theorem Jk.done{u:aK}(h:Jk l u i)(hi:l.length<=2*i+1):u=l.reverse:=by obtain⟨h1,h2⟩:=h;apply sI;grind[List.getElem?_eq_none]
theorem Dh(h:p:=by simp only[Cw];omega):p:=h
theorem aAb{H:aj}(g:Good H)(h:cm H 1 l.length s (ints l) fm)(hl:l.length<=1000):
 ∃r,fp af ng aae 316 [s] H r/\cm r.2 1 l.length s (ints l.reverse) fm/\Fr fm H r.2/\Good r.2:=by
 refine lp Tryz.func316 Q ?_;show bB af ng aae 28 _ _ _ _;have a0:ai (eH [s] 0 .nil) 0=s:=rfl;have J:∀{K:aj} {cs:aF},cm K 1 l.length s cs fm->dh af 50 s=O (ao (gu l.length)):=λ o=>o.read.dh pv
 have F:cY af .sub 3 (ao (gu l.length)) (ao 1)=O (ao (gu l.length- 1)):=alA Dh;refine aB (aS (H':=H) (λ T=>ai T 2=ao 0/\ai T 3=ao (gu l.length- 1)) (jG a0 (J h) F) ?_)
 rintro T1 ⟨t2,t3⟩ k1
 have b0:=aL k1 a0;refine gR (pq (λ m T K=>∃i D,m+i=l.length/\Jk l D i/\cm K 1 l.length s (ints D) fm/\Fr fm H K/\Good K/\ai T 0=s/\ai T 2=ao (i:U)/\ai T 3=ao ((l.length:U)- 1-i)) ?_ l.length _ _ ⟨0,l,aa,⟨Q,λ k hk=>by rw[aR (by omega)]⟩,h,Fr.refl _ _,g,b0,t2,by rw[t3];simp⟩)
 rintro m T K ⟨i,D,hm,u,N,hf,gk,u0,u2,u3⟩
 refine aB (aB (aS (H':=K) (λ T=>ai T 9=.bool (decide ((i:U)<(l.length:U)- 1-i))) (iy u2 u3) ?_));intro T2 t9 k2;obtain⟨v0,v2,Z⟩:=pB k2 u0 u2 u3;refine eX (by rw[fQ,t9]) (λ A=>?_) (λ M=>?_)
 .have A:=jL A;obtain⟨j,hj⟩:∃j:R,(l.length:U)- 1-i=j:=⟨l.length- 1-i,aa⟩;rw[hj]at Z A;have ae:j+i+1=l.length:=aa;have ag:=u.1;obtain⟨x,hx⟩:∃x,D[j]? =O x:=⟨_,eg aa⟩;obtain⟨y,hy⟩:∃y,D[i]? =O y:=⟨_,eg aa⟩;have ac:Tryz.t3.size=1:=rfl;obtain⟨S,oj,j1,_,j3⟩:=N.read.index (i:=j) aa pv mZ Q;obtain⟨Y,oi,i1,_,i3⟩:=N.read.index (i:=i) aa pv mZ Q;have lj:=vA (j3 0 (ao x) aa (by simp[hx]));have li:=vA (i3 0 (ao y) aa (by simp[hy]));rw[sK]at lj li;obtain⟨w1,p1,K1,e1,e2,e3,e4,e5⟩:=cm.I5 (P:=af) gk N (i:=i) aa (c:=ao x) Q pv mZ Q;obtain⟨w2,p2,K2,d1,d2,d3,d4,d5⟩:=cm.I5 (P:=af) e5 e3 (i:=j) aa (c:=ao y) Q pv mZ Q;have ab:∀k,iL af 50 s (.int k (j:U))=O (.ptr S oj):=j1;have ad:∀k,iL af 50 s (.int k (i:U))=O (.ptr Y oi):=i1;have q1:au.ptr w1 p1=.ptr Y oi:=tO ((e1 .i64).symm.trans (i1 .i64));have q2:au.ptr w2 p2=.ptr S oj:=tO ((d1 .i64).symm.trans (j1 .i64));cases q1;cases q2;have s1:dD af K 3 (.ptr Y oi) (ao x)=O K1:=by rw[anx];exact e2
  have s2:dD af K1 3 (.ptr S oj) (ao y)=O K2:=by rw[anx];exact d2
  have sa:=ay8 (t:=3) (i:=(i:U)) aa;have sb:=alA (t:=3) (i:=(j:U)) aa;refine fZ (aB (gR (Rb (H':=K2) (λ T=>True) aH ?_ ?_)))
  ·(repeat ((first|apply fC (cf rfl)|apply jF rfl rfl rfl);simp+decide only[AB,v0,v2,Z,ab,ad,lj,li,s1,s2];rfl))
   exact fX sp
  intro T3 _ k3;obtain⟨x0,x2,x3⟩:=pB k3 v0 v2 Z;refine aS (H':=K2) (λ T=>ai T 2=ao ((i:U)+1)/\ai T 3=ao ((j:U)- 1)) (nP x2 x3 sa sb) ?_
  rintro T4 ⟨t2,t3⟩ k4
  refine⟨m- 1,aa,i+1,(D.set i x).set j y,aa,u.step ae aa hx hy,?_,(hf.trans e4).trans d4,d5,aL k4 x0,by rw[t2];simp,by rw[t3,<-hj];congr 1;omega⟩;grind[set,List.map_set]
 .have M:=tM M;refine mY ?_;refine⟨aw,[],Q,?_,hf,gk⟩;rw[<-u.done aa];exact N
end
section
variable{ng:R}{aae:bg}
def lq(H:aj)(fm:bA):Prop:=∀f,fm=O f->H.ae<=f
def Fr.jv{H K':aj}(g:Good H)(h:Fr X H K)(k:Fr fm K K')(y:lq H fm):Fr X H K':=by
 refine⟨λ u r hu _=>k.row u r (h.row u r hu aw) ?_,λ f m A _=>k.aV f m (h.aV f m A aw) ?_,fI h.ae k.ae⟩;.intro e;have:=y _ e.symm;have:=(g.wf u r hu).2;omega
 intro e;have:=y _ e.symm;have:=(g.mem f m A).1;omega
def FD:∀{l:aK},cx I 1 (l.map λ n=>[eI n]) (ints l)
 |[]=>by simp[cx]
 |a::l=>by simp only[nA,cx,ints];refine⟨Q,?_,FD⟩;simp[dq,RP,jP]
theorem cm.rp{H:aj}(g:Good H)(fr:Fr X H H')(F:iU H H')(h:cm H' sz n s cs fm)(D:lq H fm)(A:es.length=n)(M:cx (eh I H H') sz es cs):RP (eh I H H') (.sl es X) s:=by
 obtain⟨h1,⟨rfl,h2,_⟩|⟨v,r,rfl,o,u,N,K,rfl⟩⟩:=h;.simp only[RP];grind[adA]
 have J:H.ae<=v:=by
  rcases yi v H.ae with h|h
  .exfalso;have y:=D _ Q;cases hx:H.ah.get v;.have:=F.2.1 v h hx;rw[o.row]at this;cases this
   rename_i r0;have:=fr.row v r0 hx aw;rw[o.row]at this;cases this;have:=(g.wf v _ hx).2;omega
  exact h
 simp only[RP];refine .inr ⟨v,0,X,r,sz,by rw[A],by unfold eh;rw[aR (by omega)];exact o.row,.inr ⟨Q,u⟩,by rw[A];omega,?_⟩;grind
theorem Hy(hI:bO I g)(M:RP I (.sl es X) a){e:be}(he:es[i]? =O e){P:bj}{j:TypeInfo}(Z:Tryz.prog.underlying t=O (.slice P))(hj:Tryz.prog.info? P=O j)(A:e.length=j.size):
 ∃v off,(∀k,iL af t a (.int k (.ofNat i))=O (.ptr v off))/\∀c x,e[c]? =O x->∃b,aQ g v (off+c) 1=O [b]/\RP I x b:=by
 have hi:i<es.length:=by grind[aa3]
 simp only[RP]at M;rcases M with⟨rfl,_⟩|⟨v,off,lim,r,sz,rfl,h1,h2,h3,N⟩
 .simp at hi
 .have y:∀(es:aP) (i:R) (cs:aF),cx I sz es cs->es[i]? =O e->e.length=sz/\dq I e ((cs.drop (i*sz)).take sz):=by
   intro es;induction es with
   |nil=>intro i cs _ h;simp at h
   |cons d es Y=>
    intro i cs h h';simp only[cx]at h;cases i;.grind
    rename_i i;grind[List.drop_drop,Nat.succ_mul,Nat.add_comm]
  obtain⟨S,J⟩:=y es i _ N he;have F:i*sz+sz<=es.length*sz:=by have:=uI sz (aa:i+1<=es.length);grind[Nat.add_mul]
  rw[<-S,A]at J F h3 N;refine⟨v,off+i*j.size,λ k=>?_,λ c x hx=>?_⟩;.simp only[iL,Z,hj,cD hi]
  have hc:c<e.length:=by grind[aa3]
  have u:∀(e:be) (c:R) (bs:aF),dq I e bs->e[c]? =O x->∃b,bs[c]? =O b/\RP I x b:=by
   intro e;induction e with
   |nil=>intro c bs _ h;simp at h
   |cons d e Y=>
    intro c bs h h';simp only[dq]at h;grind
  obtain⟨b,hb,D⟩:=u e c _ J hx;refine⟨b,?_,D⟩;have K:=hI _ _ h1;grind[aQ,hP,HF,List.drop_eq_getElem_cons]
def mR(tn:aP)(i:R):Int:=match tn[i]?with
 |O [_,.sc (.int _ p),_,_]=>p
 |_=> -1
def mC(tn:aP):R->U->aK
 |0,_=>[]
 |f+1,a=>if a<0 then[]else a::mC tn f (mR tn a.toNat)
def Ak(tn:aP):Prop:=tn.length<=1000/\∀i,i<tn.length->∃A p y u,tn[i]? =O [A,.sc (ao p),y,u]/\ -1<=p/\p<i
def Ko:Tryz.prog.info? 49=O Tryz.t49:=aH
def aiY:Tryz.prog.info? 31=O Tryz.t31:=aH
def HR{v o:R}:fO af 34 (.ptr v o) 0=O (.ptr v (o+0)):=by have h:gr Tryz.t31.size 0=false:=rfl;simp only[fO,Tryz.underlying34,aiY,h];rfl
def apt{v o:R}:fO af 49 (.ptr v o) 1=O (.ptr v (o+1)):=by have h:gr Tryz.t3.size 0=false:=rfl;simp only[fO,Tryz.underlying49,mZ,h];rfl
def IT{v:R}{c:au}(h:aQ g v off 1=O [c]):cr af g 31 (.ptr v off)=O c:=by simp only[cr,adp,aiY,h];rfl
def avz:fW af 3=O (ao 0):=aH
def Hl{k:U}:oW af 50 1 (O [(0,ao k)])=O ([ao k],1,O 1):=by have u:Tryz.t3.size=1:=rfl;simp+decide only[oW,pv,mZ,avz,u,fill,au.cells,jS,eV];rfl
theorem ag7{tn:aP}(u:Ak tn):∀{f g:R} {a:U},a<f->f<=g->a<tn.length->mC tn g a=mC tn f a
 |0,0,a,_,_,_=>rfl
 |0,g+1,a,h,_,_=>by grind[mC]
 |f+1,0,a,_,h,_=>by omega
 |f+1,g+1,a,h,J,F=>by
  simp only[mC];split;.rfl
  rename_i K;obtain⟨P,p,N,M,e,D,A⟩:=u.2 a.toNat aa;have y:mR tn a.toNat=p:=by unfold mR;rw[e]
  rw[y,ag7 u (f:=f) (g:=g) aa aa aa]
theorem Zd{tn:aP}:∀{f:R} {a:U},(mC tn f a).length<=f
 |0,_=>aZ _
 |f+1,a=>by
  simp only[mC];split;.exact kG _
  have:=Zd (tn:=tn) (f:=f) (a:=mR tn a.toNat);simp only[rO];omega
theorem ato{I:Im}{H:aj}(g:Good H)(hI:bO I H.ah.get){tn:aP}(ht:Ak tn){A D:au}(hN:RP I (.sl tn X) A)(oN:A.dm=V)(oE:D.dm=V){a:R}(ha:a<tn.length)
 (hc:∀f args H,f=316->eL af aae f args H=aae f args H)
 (ag:∀{K:aj} {s:au} {l:aK} {fm:bA},Good K->cm K 1 l.length s (ints l) fm->l.length<=1000->∃r,aae 316 [s] K=O r/\cm r.2 1 l.length s (ints l.reverse) fm/\Fr fm K r.2/\Good r.2):
 ∃r,fp af ng aae 256 [.agg [A,D],ao (a:U)] H r/\Fr X H r.2/\Good r.2/\∃fm,cm r.2 1 (mC tn (a+1) a).length r.1 (ints (mC tn (a+1) a).reverse) fm/\lq H fm:=by
 have ar:=ht.1;refine lp Tryz.func256 Q ?_;show bB af ng aae 21 _ _ _ _;have a0:ai (eH [.agg [A,D],ao (a:U)] 0 .nil) 0=.agg [A,D]:=rfl;have a1:ai (eH [.agg [A,D],ao (a:U)] 0 .nil) 1=ao (a:U):=rfl;have M:(au.agg [A,D]).cells=[A,D]:=rfl;have f0:=iv g [A,D] V 1;have g0:=jb g [A,D] V 1;refine aB (aS (H':=alloc H [A,D] V 1) (λ T=>ai T 2=.ptr H.ae 0) (jG a0 a1 M) ?_);intro T1 t2 k1;have b1:=aL k1 a1;refine aB (aS (H':=alloc H [A,D] V 1) (λ T=>ai T 5=.aq) @b1 ?_);intro T2 t5 k2;obtain⟨c1,c2⟩:=jA k2 b1 t2;refine aB (gR (pq (λ m T K=>∃(x:U) (L:aK) (s:au) (fm:bA),(m:U)=x+1/\x<tn.length/\L++mC tn m x=mC tn (a+1) a/\cm K 1 L.length s (ints L) fm/\lq (alloc H [A,D] V 1) fm/\Fr X (alloc H [A,D] V 1) K/\Good K/\ai T 1=ao x/\ai T 2=.ptr H.ae 0/\ai T 5=s) ?_ (a+1) _ _ ⟨a,[],.aq,X,aa,aa,Q,⟨aw,.inl ⟨Q,Q,Q⟩⟩,λ f e=>bk,Fr.refl _ _,g0,c1,c2,t5⟩))
 rintro m T K ⟨x,L,s,fm,hm,hx,hL,ho,J,P,gk,u1,u2,u5⟩
 refine aB (aB (aS (H':=K) (λ T=>ai T 7=.bool (decide (x>=0))) u1 ?_));intro T3 t7 k3;obtain⟨v1,v2,v5⟩:=pB k3 u1 u2 u5;have am:L.length<=1000:=by grind[List.length,abY,Zd]
 refine eX (by rw[fQ,t7]) (λ ab=>?_) (λ Z=>?_)
 .have ab:=jL ab;obtain⟨i,rfl⟩:∃i:R,x=i:=⟨x.toNat,aa⟩;obtain⟨c0,p,d2,d3,e,p1,p2⟩:=ht.2 i aa;have hp:mR tn i=p:=by unfold mR;rw[e]
  have g1:=jb gk [ao (i:U)] V 1;have f1:=iv gk [ao (i:U)] V 1;have o1:cm (alloc K [ao (i:U)] V 1) 1 L.length s (ints L) fm:=ho.nQ f1;have lit:lenOf (.slice K.ae 0 1 X)=O 1:=rfl;have lits:er (alloc K [ao (i:U)] V 1).ah.get 1 1 (.slice K.ae 0 1 X)=O [ao (i:U)]:=by have hr:=(mK K [ao (i:U)] V 1).row;simp+decide only[er,aQ,hr];rfl
  obtain⟨s2,K2,ap,q1,q2,q3,q4,q5⟩:=yp (k:=1) (bytes:=8) (new:=[ao (i:U)]) g1 cB o1 Q Q mE mE;have N:=ack (s:=s) lit lits;rw[q1]at N;have F:Fr X (alloc H [A,D] V 1) K2:=(P.trans f1).jv g0 q3 J;refine fZ (aB (gR (aS (H':=K2) (λ T=>ai T 5=s2) (nP v1 v5 @Hl N) ?_)));intro T4 t5 k4;obtain⟨w1,w2⟩:=jA k4 v1 v2;have ad:aQ K2.ah.get H.ae (0+0) 1=O [A]:=by have hr:=F.row _ _ (mK H [A,D] V 1).row aw;simp+decide only[aQ,hr];rfl
  have an:bO I K2.ah.get:=λ u r e=>F.row u r (f0.row u r (hI u r e) aw) aw
  obtain⟨y,o,x1,x2⟩:=Hy an hN e adp Ko Q;obtain⟨b,hb,S⟩:=x2 1 (.sc (ao p)) Q;simp only[RP]at S;obtain⟨rfl,_⟩:=S;have al:∀k,iL af 31 A (.int k (i:U))=O (.ptr y o):=x1;refine aS (H':=K2) (λ T=>ai T 1=ao p) (zA w1 w2 @HR (IT ad) al @apt (vA hb)) ?_;intro T5 t1 k5;refine⟨(p+1).toNat,aa,p,L++[(i:U)],s2,ap,aa,aa,?_,?_,?_,F,q4,t1,aL k5 w2,aL k5 t5⟩
  .rw[<-hL,KM]
   congr 1
   obtain⟨m',rfl⟩:∃m',m=m'+1:=⟨m- 1,aa⟩;simp only[mC];rw[aR aa];show[(i:U)]++_=(i:U)::_;have:((i:U)).toNat=i:=aa;grind[ag7]
  .simpa[ints]using q2
  intro f e';rcases q5 with rfl|⟨f',av,rfl⟩
  .exact J f e'
  cases e';have:=P.ae;have:=f1.ae;omega
 .have Z:=tM Z;have Y:mC tn m x=[]:=by grind[mC]
  rw[Y,ou]at hL;obtain⟨⟨rv,rH⟩,r1,r2,r3,r4⟩:=ag gk ho am;refine mY ?_;show bB af ng aae 21 _ _ _ _;have F:=P.jv g0 r3 J;have ac:=hc 316 [s] K Q;rw[r1]at ac;refine aB (aS (H':=rH) (λ T=>True) (iy v5 ac) ?_);intro T4 _ k4;have w5:=aL k4 v5;refine aB (aS (H':=rH) (λ T=>ai T 4=s) w5 ?_);intro T5 t4 _;refine iZ ⟨aw,[_],Q,f0.trans F,r4,fm,?_,λ f e'=>?_⟩;.grind[qc]
  have:=J f e';have:=f0.ae;omega
end
section
variable{ng:R}{aae:bg}
def qp(l:aK):aK:=l.mergeSort λ x y=>decide (x<=y)
def LJ(l:aK):(qp l).length=l.length:=by simp[qp]
def VE(aae:bg):Prop:=∀(I:Im) (H:aj) (l:aK) (a:au),Good H->bO I H.ah.get->RP I (aO l) a->l.length<=1000->∃r,aae 144 [a] H=O r/\∃fm,cm r.2 1 l.length r.1 (ints l) fm/\lq H fm/\Fr X H r.2/\Good r.2
def Wo(aae:bg):Prop:=∀(H:aj) (s:au) (u:aK) (fm:bA),Good H->cm H 1 u.length s (ints u) fm->u.length<=1000->∃H',aae 217 [s] H=O (.tuple [],H')/\cm H' 1 u.length s (ints (qp u)) fm/\Fr fm H H'/\Good H'
def acX(aae:bg):Prop:=∀(H:aj) (s:au) (u:aK) (fm:bA),Good H->cm H 1 u.length s (ints u) fm->u.length<=1000->∃y H',aae 311 [s] H=O (y,H')/\cm H' 1 (Lib.compact u).length y (ints (Lib.compact u)) fm/\Fr fm H H'/\Good H'
def Rk{l:aF}{H:aj}:eL af aae 144 l H=aae 144 l H:=by simp only[eL,ay6];rfl
def Wl{l:aF}{H:aj}:eL af aae 217 l H=aae 217 l H:=by simp only[eL,Tryz.func217];rfl
def afd{l:aF}{H:aj}:eL af aae 311 l H=aae 311 l H:=by simp only[eL,Tryz.func311];rfl
def aJh{H:aj}(g:Good H)(hI:bO I H.ah.get)(hr:RP I (aO l) a)(J:l.length<=1000)(c1:VE aae)(c2:Wo aae)(c3:acX aae):
 ∃r,fp af ng aae 251 [a] H r/\r.1=ao ((Lib.compact (qp l)).length:U)/\Fr X H r.2/\Good r.2:=by
 refine lp Tryz.func251 Q ?_;show bB af ng aae 11 _ _ _ _;have K:ai (eH [a] 0 .nil) 0=a:=rfl;obtain⟨⟨s,N⟩,q1,fm,q2,D,Z,Y⟩:=c1 I H l a g hI hr J;obtain⟨M,p1,F,p3,p4⟩:=c2 N s l fm Y q2 J;have y:=LJ l;rw[<-y]at F;obtain⟨s3,H3,r1,r2,r3,r4⟩:=c3 M s (qp l) fm p4 F aa;refine aB (aS (H':=H) (λ T=>True) K ?_);intro T1 _ k1;have b0:=aL k1 K;refine aB (aS (H':=N) (λ T=>ai T 3=s) (jG b0 @Rk q1) ?_);intro T2 A k2;refine aB (aS (H':=M) (λ T=>True) (jG A @Wl p1) ?_);intro T3 _ k3;have P:=aL k3 A;have u:=r2.read.dh pv;refine aB (aS (H':=H3) (λ T=>ai T 2=ao (gu (Lib.compact (qp l)).length)) (nP P @afd @r1 u) ?_);intro T4 S _;exact iZ ⟨aw,[_],Q,by simp only[qc,S];rfl,(Z.jv g p3 D).jv g r3 D,r4⟩
end
section
variable{a:Act}{ρ:dO}
variable{P:aA}{ng n Bqq:R}{aae:bg}
theorem axv{aag:dV}(ac:jV P ng aae)(ad:ib aae)(ab:wo aag=true){H:aj}{w:cG}{Qqq:rm}
 (h:kK P ng aae n aag T H true=O (T',H')) (s:jU Bqq ng ρ H w) (wf:WF H) (A:ll ρ H.ae H'.ae) (hT:hY ρ n T a.tmps) (hd:a.defers=[])
 (hQ:∀a' w' aa,hY aa n T' a'.tmps->a'.defers=[]->cW Bqq ng H.ah.get H.ae H'.ae ρ w H'.ah.get H'.aV.get aa w'->Qqq .normal a' w'):
 ∀md,uR md aag (Region.linearise md aag 0) []=true->wpAny P md aag Qqq aag.size (vj aag.size W) a {w with drawn:=w.drawn+1}:=by
 rcases Xh h with h|⟨hr,h⟩
 .unfold pQ at h;split at h
  .rename_i S T1 H1 F;split at h
   .rename_i D;cases h;simp only[wo,bq]at ab;obtain⟨Z,Ht,vt,wt,tx,af,Y,ao,ap⟩:=Wq (Iv F);have K:kx P ng aae n aag.toList (eA aag) aag.toList 0 ⟨oY aag wt 0,kD aag Ht wt 0,qz aag Z vt wt 0⟩ (Z 0) (Ht 0)=O (S,T',H'):=by rw[af,Y];exact F
    obtain⟨hS,an⟩:=OM tx (gU) (kG _) K;subst hS
    have y:∀k i,i<k->(dN aag wt i=2\/dN aag wt i=3)->i∈oY aag wt k:=by
     intro k;induction k with
     |zero=>intro i hi;omega
     |succ k ag=>grind[oY,Nat.eq_or_lt_of_le,Nat.le_of_lt_succ,aqQ]
    have J:∀k j o,j<k->aag[j]? =O o->dN aag wt j=1->(j,Z j,o.op,vt j)∈qz aag Z vt wt k:=by
     intro k;induction k with
     |zero=>intro j o hj;omega
     |succ k ag=>
      intro j o hj ho N;simp only[qz];rcases uJ (Cy hj)with rfl|av
      .rw[aY N];simp[ho]
      grind[aqQ]
    have d:BT P ng aae n aag Z Ht vt wt:={
     tx:=tx,ok:=ac,grow:=ad,wf:=by rw[Y];exact wf,apart:=ab.2,
     chain:=λ k N i am ai=>an k (kG _) (DH (by rw[N];decide)) N i (y k i am ai),
     reads:=λ j o ho N p hp ar up aq=>by have al:=DH (i:=j) (aag:=aag) (wt:=wt) (by rw[N];decide);have:=Uz D _ (J aag.size j o al ho N);exact .inl (by grind[MD])}
    exact λ md M=>TG (Bqq:=Bqq) (Qqq:=Qqq) d af Y ao ap s A hT hd hQ md _ M
   cases h
  cases h
 .obtain⟨hg,hs,u⟩:=ZI hr;simp only[wo,bq]at u;obtain⟨Z,Ht,vt,wt,d,h1,h2,h3,h4⟩:=am2 ac ad u.2 wf h;intro md _
  have M:uR md (kz aag) (Region.linearise md (kz aag) 0) []=true:=by
   cases md
   all_goals first|exact u.1.1.1|exact u.1.1.2|exact u.1.2
  have:=TG (Bqq:=Bqq) (Qqq:=Qqq) d h1 h2 h3 h4 s A hT hd hQ md _ M;rw[agv]at this;exact af5 hg hs this
theorem ar6(S:k<aag.size)(Y:AG aag=V)(D:jV P ng aae)(K:ib aae)(A:wo (qj k aag)=V){id:R}{H:aj}{w:cG}{Qqq:rm}
 (h:kK P ng aae n (qj k aag) T H V=O (T',H')) (s:jU Bqq ng ρ H w) (wf:WF H) (u:ll ρ H.ae H'.ae) (hT:hY ρ n T a.tmps) (Z:a.defers=[])
 (hQ:∀M N y,hY y n T' M.tmps->M.defers=[]->cW Bqq ng H.ah.get H.ae H'.ae ρ w H'.ah.get H'.aV.get y N->Qqq .normal M N):(Code.region id aag V).wp P Qqq a w:=by
 rw[wo]at A
 have J:∀i,(vj aag.size false).getD (sg k i) false=(vj aag.size false).getD i false:=by
  have:∀i,(vj aag.size false).getD i false=false:=by intro i;rw[qh,adU];split<;>rfl
  intro i;rw[this,this]
 have any:∀md,uR md _ _ []=V->∀t,wpOps P aag Qqq (Region.linearise md aag t) a _:=λ md F t=>by have:=(axv D K A h s wf u hT Z hQ) md F;rw[z8]at this;exact wpAny_sound _ t _ a _ (Nv S Y aw aw J this)
 grind[wp_region_draw,Region.schedule]
def zx(id0 k:R):Code->Code
 |.region id aag d=>if id=id0 then .region id (qj k aag) d else .region id aag d
 |.seq a b=>.seq (zx id0 k a) (zx id0 k b)
 |.cond x a b=>.cond x (zx id0 k a) (zx id0 k b)
 |.skip=>.skip
 |.ret=>.ret
 |_=>.exit 0
def wF(id0 k:R):Code->mi
 |.region id aag d=>if id=id0 then d&&(decide (k<aag.size)&&(AG aag&&wo (qj k aag)))else(!d||wo aag)
 |.seq a b=>wF id0 k a&&wF id0 k b
 |.cond _ a b=>wF id0 k a&&wF id0 k b
 |.skip=>V
 |.ret=>V
 |_=>W
def aEb(ab:jV P ng aae)(J:ib aae):∀(m:R) (c:Code) (T:aM) (H:aj) (e:oP) (T':aM) (H':aj),dE P ng aae n m (zx id0 k c) T H=O (e,T',H')->wF id0 k c=V->
 ∀(ρ:dO) (a:Act) (w:cG) (Qqq:rm),jU Bqq ng ρ H w->WF H->ll ρ H.ae H'.ae->hY ρ n T a.tmps->a.defers=[]->
 (∀Z w' A,hY A n T' Z.tmps->Z.defers=[]->cW Bqq ng H.ah.get H.ae H'.ae ρ w H'.ah.get H'.aV.get A w'->Qqq e.up Z w')->c.wp P Qqq a w:=by
 intro m;induction m with
 |zero=>intro c T H e T' H' h;cases h
 |succ m D=>
  intro c T H e T' H' h u ρ a w Qqq s wf N F K M;cases c with
  |skip=>cases h;exact wp_skip (M a w ρ F K (cW.refl s _ _))
  |region id aag d=>
   rw[zx]at h;rw[wF]at u;by_cases ac:id=id0
   .rw[aY ac]at h u;simp at u;obtain⟨rfl,h2,h3,h4⟩:=u;change rG _=_ at h;unfold rG at h;split at h;.rename_i T1 H1 hr;cases h;exact ar6 h2 h3 ab J h4 hr s wf N F K M
    cases h
   rw[aR ac]at h u;change rG _=_ at h;unfold rG at h;split at h;.rename_i T1 H1 hr;cases h;refine aeS ab J (λ ai=>?_) hr s wf N F K M;simpa[ai]using u
   cases h
  |seq x y=>
   rw[wF,bq]at u;refine wp_seq ?_;rcases Gi h with⟨T1,H1,h1,h2⟩|⟨h1,hn⟩
   .have g1:=Dq J m _ T H _ T1 H1 h1;have g2:=Dq J m _ T1 H1 e T' H' h2;exact D x T H _ T1 H1 h1 u.1 ρ a w _ s wf (N.sub (aZ _) g2.1) F K (λ Z w' A Y S hc=>(D y T1 H1 e T' H' h2 u.2 A Z w' Qqq hc.cA (g1.2 wf) (N.Iz hc g1.1) Y S (λ am ag aa af ad al=>M am ag aa af ad (hc.trans al g1.1 g2.1))))
   refine D x T H e T' H' h1 u.1 ρ a w _ s wf N F K (λ Z w' A Y S hc=>?_);have:=M Z w' A Y S hc;cases e with
   |normal=>exact absurd Q hn
   |exit id=>exact this
   |ret=>exact this
  |cond x y z=>
   change oL _ _ _=_ at h;rw[wF,bq]at u;unfold oL at h;split at h;.rename_i hx;exact wp_cond_true (jq F s.lW hx) (D y T H e T' H' h u.1 ρ a w Qqq s wf N F K M)
   .rename_i hx;exact wp_cond_false (jq F s.lW hx) (D z T H e T' H' h u.2 ρ a w Qqq s wf N F K M)
   cases h
  |ret=>cases h;exact wp_ret (M a w ρ F K (cW.refl s _ _))
  |_=>cases u
end
section
variable{aae:bg}
variable{P:aA}{ng n Bqq:R}{gl:bH}{G:Gh}{H:aj}
def vn(P:aA)(ng id0 kk:R)(aae:bg)(f:ck)(args:aF)(H:aj)(r:xe):Prop:=∃fn c m e T l,P.funcs[f]? =O fn/\fn.body=O c/\wF id0 kk c=V/\dE P ng aae (args.length+(fn.ntmps-args.length)) m (zx id0 kk c) (eH args 0 .nil) H=O (e,T,r.2)/\(∀id,e≠.exit id)/\eG P r.2.ah.get T fn.results.toList=O l/\r.1=qc l
def R9(P:aA)(id0 kk:R)(pol:pz)(gl:bH)(aae:eE)(m:R)(f:ck)(args:be)(S:gC):Cb:=
 match P.funcs[f]?with
 |X=>X
 |O fn=>
  match fn.body with
  |X=>X
  |O c=>
   match ic P (pol f) gl aae (args.length+(fn.ntmps-args.length)) m (zx id0 kk c) (vo 0 args) (ez [] S)with
   |O (.exit _,_,_)=>X
   |O (_,T,st)=>match zd P st T fn.results.toList with
    |O l=>O (rQ l,st.up,st.w)
    |X=>X
   |X=>X
theorem aqz{aae:eE}{A:bg}(M:pJ ng gl aae A){pol:pz}{f:ck}{args:be}{S1:gC}{w dt:mi}(J:R9 P id0 kk pol gl aae m f args S=O (v,S1,w))(ab:∀fn c,P.funcs[f]? =O fn->fn.body=O c->wF id0 kk c=V)(hs:args.map dg=args)
 (hv:cH G (eJ S) H) (hg:mJ ng gl G) {xs0:aF} (hr:bu (dL S.length G.ρ) G.I args xs0) (ah:∀d k,(cu (eJ S) d k).isSome=V->w=V->kJ (rY dt) d k):
 ∃a H' Z,vn P ng id0 kk A f xs0 H (a,H')/\cH Z (eJ S1) H'/\dF S.length G (eJ S) H Z (eJ S1) H' (kJ (rY dt)) (λ _=>True)/\aJ ρ0 Z.I v a/\tH Z (.tmp S.length 0) v.cells a.cells:=by
 unfold R9 at J;split at J<;>try cases J
 rename_i fn hf;split at J;.cases J
 .rename_i c hc;split at J<;>try cases J
  rename_i e T2 dp ad af;split at J<;>try cases J
  rename_i l hl;obtain⟨hw,ag,H2,G2,e1,e2,e3⟩:=WI M m (zx id0 kk c) ⟨hv,amU hr hs,rfl,hg⟩ af;obtain⟨rs,r1,r2,r3⟩:=Sd (P:=P) e2.cA e2.tmp hl;have N:xs0.length=args.length:=sQ hr;have aa:=e2.gX;have K:∀d k cs,cu (eJ dp.up) d k=O cs->cu dp d k=O cs:=by intro d k cs e;rw[Bu]at e;unfold cu;rw[aR (by have:=rF e;omega)];exact e
  have ac:∀k,cu (eJ S) S.length k=none:=by
   intro k;rw[Bu];cases e:jW S S.length k;.rfl
   rename_i cs;have:=rF e;omega
  have mr:∀t,dF S.length G (eJ S) H (ig G2 (Dg S.length t)) (eJ dp.up) H2 (kJ (rY dt)) (λ _=>True):=by
   intro t;refine⟨e3.im,e3.py,λ k hk=>(hk sp).elim,λ d k u a b c=>?_,e3.ae,λ u hu=>?_,λ f s a b=>?_,aa,(λ u r a b=>(e3.qq u r a b).elim id λ ⟨k,q,_⟩=>(by rw[ac]at q;cases q)),λ f s a b=>?_,e3.aV⟩;.refine e3.live d k u ?_ b c;obtain⟨cs,M⟩:=tN.1 a;rw[K d k cs M];rfl
   .rcases e3.rows u hu with q|⟨d,k,q1,q2,q3⟩
    .exact .inl q
    rcases q1 with q1|q1
    .grind
    grind
   .obtain⟨q1,q2⟩:=e3.qR f s a b;refine⟨?_,q2⟩;show(G2.own f).bind _=O s;rw[q1];cases s with
    |tmp d i j=>
     have:d<S.length:=a;grind[Dg]
    |box _ _ _=>exact a.elim
    |up s=>rfl
   obtain⟨s',q⟩:=Ei a;exact e3.qf f s' q b
  have F:vn P ng id0 kk A f xs0 H (qc rs,H2):=by
   refine⟨fn,c,m,e,ag,rs,hf,hc,ab fn c hf hc,?_,λ id he=>?_,r1,rfl⟩;.rw[N];exact e1
   subst he;exact ad id rfl
  have D:∀t,cH (ig G2 (Dg S.length t)) (eJ dp.up) H2:=λ t=>(e2.cA.sub K).ig λ _ _ _=>rfl
  match l,rs,r2,r3 with
  |[],rs,r2,r3=>
   obtain rfl:=lX.1 r2;exact⟨_,_,_,F,D 0,mr 0,by simp[rQ,aJ],(kM (by simp[rQ]) rfl).own _ _⟩
  |[v],rs,r2,r3=>
   obtain⟨a,Y,rfl,q1,q2⟩:=bJ.1 r2;obtain rfl:=lX.1 q2;rcases r3 v a rfl rfl with q|⟨t,q⟩
   .exact⟨_,_,_,F,D 0,mr 0,Nb q1,Un (q.own _ _)⟩
   refine⟨_,_,_,F,D t,mr t,Nb q1,Un λ j es sz c x y=>(q j es sz c x y).ig ?_⟩;simp only[Dg,KI]
  |v::v2::l,rs,r2,r3=>
   obtain⟨a,Y,rfl,q1,q2⟩:=bJ.1 r2;obtain⟨a2,Y,rfl,q3,q4⟩:=bJ.1 q2;refine⟨_,_,_,F,D 0,mr 0,?_,(kM (by simp[rQ]) rfl).own _ _⟩;have:=abH r2;show aJ ρ0 _ (.bp _) (.tuple _);simp only[aJ];exact .inr ⟨_,rfl,this⟩
theorem vn.unique{f:ck}{H:aj}{s:xe}(h:vn P ng id0 kk aae f args H r)(k:vn P ng id0 kk aae f args H s):r=s:=by obtain⟨fn,c,m,e,T,l,h1,h2,_,y,_⟩:=h;obtain⟨A,F,u,D⟩:=k;have a:=Dr (wU m u) y;grind[Dr,Nat.le_max_right]
theorem awo(u:ib aae){f:ck}{H:aj}(h:vn P ng id0 kk aae f args H r):iM H r.2:=by obtain⟨fn⟩:=h;grind[Dq]
theorem aBm(u:pg aae){f:ck}{H:aj}(h:vn P ng id0 kk aae f args H r):iU H r.2:=by obtain⟨fn⟩:=h;grind[ako]
def azF(aa:jV P ng aae)(hg:ib aae){f:ck}{H:aj}{v:au}(h:vn P ng id0 kk aae f args H (v,H')):∀Bqq ρ w xs,jU Bqq ng ρ H w->WF H->ll ρ H.ae H'.ae->dS ρ args xs->
 Calls P f ⟨xs⟩ w (λ e w'=>∃x A,e=.returned x/\bW A v x/\cW Bqq ng H.ah.get H.ae H'.ae ρ w H'.ah.get H'.aV.get A w'):=by
 intro Bqq ρ w xs s wf M F;obtain⟨fn,c,m,e,T,l,hf,hb,Z,ac,ab,Y,hv⟩:=h;obtain rfl:=hv;refine calls_of_wp hf hb ?_;rw[(show(⟨xs⟩:kA).size=args.length by simpa using(pY F))];refine aEb aa hg m c _ H e T H' ac Z ρ _ w _ s wf M (afP F _) rfl ?_;intro a' w' A hT hd hc;obtain⟨vs,u,S⟩:=Qp hc.cA hT Y
 have N:bW A (qc l) (abG vs):=by
  match l,u with
  |[],u=>obtain rfl:=pM.1 u;exact⟨[],rfl,rfl⟩
  |[x],u=>
   obtain⟨y,ys,rfl,hy,K⟩:=ep.1 u;obtain rfl:=pM.1 K;exact hy
  |x::y::l,u=>
   obtain⟨x',ys,rfl,hx,K⟩:=ep.1 u;obtain⟨y',zs,rfl,hy⟩:=ep.1 K;exact⟨_,rfl,u⟩
 have D:a'.defers=[]/\∃v,(results fn _).run P w'=.ok v w'/\∃x J,Ending.returned v=.returned x/\bW J _ x/\cW Bqq ng _ _ _ ρ w _ _ J w':=⟨hd,_,(ak0 S),_,A,rfl,N,hc⟩;cases e with
 |normal=>exact D
 |ret=>exact D
 |exit id=>exact absurd rfl (ab id)
end
section
variable{g:R->U}
variable{gl:bH}{base:fi}
def Me(g:R->U)(m:R)(i:R)(s:aK):IL:=if s.length=m then O (.inl (s.set i (g i)))else X
theorem an7:∀k i (s:aK),i+k=m->s.length=m->jC (Me g m) k i s=O (.inl (s.take i++(vv k).map λ j=>g (i+j)))
 |0,i,s,h,u=>by show O (Sum.inl s)=_;grind[PN]
 |k+1,i,s,h,u=>by
  have e:Me g m i s=O (.inl (s.set i (g i))):=by unfold Me;rw[aY u]
  simp only[jC,e];rw[an7 k (i+1) _ aa (by rw[zB];exact u)]
  congr 2
  rw[apL,nA,lP,UG,UP,apN aa];have:(s.take i).set i (g i)=s.take i:=aKh FC;grind[auB,aqM,aqi,List.cons.injEq,acL]
def afg:ly af 214=true:=aH
theorem aDS(hm:m<=100000)(K:∀i,i<m->∃(p:U) (f:mi),(∀S,VW gl base 214 [aO l,eI (i:U)] S=O (.bp [eI p,eB f],S,W))/\g i=if f then p else-1):
 VW gl base 234 [eI (m:U),aO l] S=O (aO ((vv m).map g),S,W):=by
 have hL:=uh (P:=af) (gl:=gl) (aae:=VW gl base) (n:=30) (len:=m) (C:=Q3) (Bqq:=I6) (f:=Me g m)
  (TT:=λ i _=>[(1,aO l),(5,.ms 0 10 m 1),(12,eI m),(13,eI i)]) (ST:=λ s=>(ez [(10,eC s)] []))
  (Xqq:=λ s=>(.exit 0,[(1,aO l),(5,.ms 0 10 m 1),(12,eI m),(13,eI m),(14,eB W)],(ez [(10,eC s)] []))) ?_ ?_ ?_ m 0 (ef m 0) _ aa (an7 m 0 _ aa (mw ..))
 .have hL:cO af gl (VW gl base) 30 Q3 [(1,aO l),(5,.ms 0 10 m 1),(12,eI m),(13,eI 0)] (ez [(10,eC (ef m 0))] [])=_:=hL;simp only[jM,mG,Ew]at hL;have F:∀{T:VT},qV 10 T (ez [(10,eC ((vv m).map g))] [])=_:=λ {T}=>IS Q Iu On
  have D:((vv m).map g).length=m:=aw;refine uY (S':=[]) (w:=W) aAD Q Q ?_;simp+decide only[jd,aif,VB,lk,bU,↓ky,eF,et,oJ,afs,ajE,ann,aj7,Tm (aa:m<=1073741824),hL,F,D,uM]
 .intro i s;rw[awD];simp+decide only[VB,lk,bU,↓ky,eF,et]
 .intro i s hi;have A:((i:U)<(m:U))=True:=mU aa;unfold Me;by_cases y:s.length=m
  .rw[aY y];have J:i<s.length:=aa;have u:(decide (i+1<=s.length))=true:=jR aa;obtain⟨p,f,h1,h2⟩:=K i hi;rw[h2];cases f;.simp+decide only[I6,VB,lk,bU,↓ky,eF,et,Qz,aco,Y4,adt,ado,ab5,WE,oJ,A,iA afg,h1,xX hi,Fv J,u,nZ (aa:i<=4611686018427387904)]
   simp+decide only[I6,VB,lk,bU,↓ky,eF,et,Qz,aco,Y4,adt,ado,ab5,WE,oJ,A,iA afg,h1,xX hi,Fv J,u,nZ (aa:i<=4611686018427387904)]
  rw[aR y];trivial
 .intro s;refine⟨?_,pO⟩;simp+decide only[I6,VB,lk,bU,↓ky,eF,et,Qz,uN]
end
section
variable{at_:aK}{lo:U}
variable{gl:bH}{base:fi}
def plF(im:aK)(m:R)(i:R)(k:U)(s:aK):gw aK:=
 match im[i]?with
 |O x=>if 0<=k/\k.toNat<s.length/\s.length=m then O (s.set k.toNat x)else X
 |X=>X
def LV(im at_:aK)(m:R)(i:R)(s:aK):IL:=
 match at_[i]?with
 |O k=>(match plF im m i k s with|O u=>O (.inl u)|X=>X)
 |X=>X
theorem ahK(A:at_.length<=im.length)(J:∀k∈at_,0<=k/\k<m)(hx:∀x∈im,lo<=x/\x<=hi):
 ∀k i (s:aK),i+k=at_.length->s.length=m->(∀x∈s,lo<=x/\x<=hi)->∃u,jC (LV im at_ m) k i s=O (.inl u)/\u.length=m/\∀x∈u,lo<=x/\x<=hi
 |0,i,s,h,y,F=>⟨s,Q,y,F⟩
 |k+1,i,s,h,y,F=>by
  have D:i<at_.length:=aa;have M:i<im.length:=aa;obtain⟨P,N⟩:=J _ (qP D);have e:LV im at_ m i s=O (.inl (s.set at_[i].toNat im[i])):=by grind[LV,plF,HF]
  simp only[jC,e];refine ahK A J hx k (i+1) _ aa (by rw[zB];exact y) λ x K=>?_
  grind[anF,ak4]
def aHO(hR:C7 base)(hm:m<=100000)(ac:lo<= -1)(ad: -1<=hi)(ae:at_.length<=100000)(M:at_.length<=im.length)(hk:∀k∈at_,0<=k/\k<m)(hx:∀x∈im,lo<=x/\x<=hi):
 ∃r:aK,r.length=m/\(∀x∈r,lo<=x/\x<=hi)/\∀S,VW gl base 392 [eI (m:U),aO at_,aO im] S=O (aO r,S,W):=by
 obtain⟨r,hr,y,J⟩:=ahK M hk hx at_.length 0 (ef m (-1)) aa (mw ..) (λ x hx=>bP);refine⟨r,y,J,λ S=>?_⟩
 have hL:=uh (P:=af) (gl:=gl) (aae:=VW gl base) (n:=29) (len:=at_.length) (C:=QW) (Bqq:=Od) (f:=LV im at_ m)
  (TT:=λ i _=>[(2,aO im),(7,.ms 0 12 m 1),(13,aO at_),(14,eI at_.length),(15,eI i)]) (ST:=λ s=>(ez [(12,eC s)] []))
  (Xqq:=λ s=>(.exit 0,[(2,aO im),(7,.ms 0 12 m 1),(13,aO at_),(14,eI at_.length),(15,eI at_.length),(16,eB W)],(ez [(12,eC s)] []))) ?_ ?_ ?_ at_.length 0 (ef m (-1)) _ aa hr
 .have hL:cO af gl (VW gl base) 29 QW [(2,aO im),(7,.ms 0 12 m 1),(13,aO at_),(14,eI at_.length),(15,eI 0)] (ez [(12,eC (ef m (-1)))] [])=_:=hL;have Z:∀{T:VT},qV 12 T (ez [(12,eC r)] [])=_:=λ {T}=>IS Q Iu On
  refine uY (S':=[]) (w:=W) aAS Q Q ?_;simp+decide only[jd,afw,VB,lk,bU,↓ky,eF,et,oJ,amC,ahW,agJ,aoL,jx,iA YT,ade hR hm,hL,Z,y,uM,br]
 .intro i s;rw[aD3];simp+decide only[VB,lk,bU,↓ky,eF,et]
 .intro i s Y;have K:((i:U)<(at_.length:U))=True:=mU aa;have ha:at_[i]? =O at_[i]:=eg Y;have D:(at_.map λ n=>[eI n])[i]? =O [eI at_[i]]:=bP;unfold LV;rw[ha];simp only;unfold plF;cases ab:im[i]?;.trivial
  rename_i x;simp only;by_cases hc:0<=at_[i]/\at_[i].toNat<s.length/\s.length=m;.rw[aY hc];obtain⟨c1,c2,c3⟩:=hc;obtain⟨z,hz⟩:∃z:R,at_[i]=z:=⟨at_[i].toNat,aa⟩;have u:at_[i].toNat=z:=aa;rw[hz]at D;rw[u]at c2;have N:(im.map λ n=>[eI n])[i]? =O [eI x]:=bP;have A:(decide (z+1<=s.length))=true:=jR aa;have F:z<m:=aa;rw[u];simp+decide only[Od,VB,lk,bU,↓ky,eF,et,Wk,apf,amr,agD,oJ,K,fc D,fc N,xX F,Fv c2,A,nZ (aa:i<=4611686018427387904)]
  rw[aR hc];trivial
 .intro s;refine⟨?_,pO⟩;simp+decide only[Od,VB,lk,bU,↓ky,eF,et,Wk,uN]
end
section
variable{ma tr:aK}
variable{gl:bH}{base:fi}
def EE(l:aK)(m:R)(i:R)(s:aK):IL:=
 match l[i]?with
 |O k=>if 0<=k then(if k.toNat<s.length/\s.length=m then O (.inl (s.set k.toNat (i:U)))else X)else O (.inl s)
 |X=>X
theorem aaP(D:∀k∈l,k<m):
 ∀k i (s:aK),i+k=l.length->s.length=m->(∀x∈s,-1<=x/\x<l.length)->∃y,jC (EE l m) k i s=O (.inl y)/\y.length=m/\∀x∈y,-1<=x/\x<l.length
 |0,i,s,h,u,A=>⟨s,Q,u,A⟩
 |k+1,i,s,h,u,A=>by
  have F:i<l.length:=aa;have K:=D _ (qP F);by_cases M:0<=l[i]
  .have e:EE l m i s=O (.inl (s.set l[i].toNat (i:U))):=by grind[EE,HF]
   simp only[jC,e];refine aaP D k (i+1) _ aa (by rw[zB];exact u) λ x J=>?_
   grind
  have e:EE l m i s=O (.inl s):=by grind[EE,HF]
  simp only[jC,e];exact aaP D k (i+1) _ aa u A
def aqU(hR:C7 base)(hm:m<=100000)(hl:l.length<=100000)(hk:∀k∈l,k<m):
 ∃r:aK,r.length=m/\(∀x∈r,-1<=x/\x<l.length)/\∀S,VW gl base 263 [aO l,eI (m:U)] S=O (aO r,S,W):=by
 obtain⟨r,hr,D,M⟩:=aaP hk l.length 0 (ef m (-1)) aa (mw ..) (λ x hx=>by rw[UR hx];omega);refine⟨r,D,M,λ S=>?_⟩
 have hL:=uh (P:=af) (gl:=gl) (aae:=VW gl base) (n:=26) (len:=l.length) (C:=Ry) (Bqq:=I4) (f:=EE l m)
  (TT:=λ i _=>[(5,.ms 0 10 m 1),(11,aO l),(12,eI l.length),(13,eI i)]) (ST:=λ s=>(ez [(10,eC s)] []))
  (Xqq:=λ s=>(.exit 0,[(5,.ms 0 10 m 1),(11,aO l),(12,eI l.length),(13,eI l.length),(14,eB W)],(ez [(10,eC s)] []))) ?_ ?_ ?_ l.length 0 (ef m (-1)) _ aa hr
 .have hL:cO af gl (VW gl base) 26 Ry [(5,.ms 0 10 m 1),(11,aO l),(12,eI l.length),(13,eI 0)] (ez [(10,eC (ef m (-1)))] [])=_:=hL;have Y:∀{T:VT},qV 10 T (ez [(10,eC r)] [])=_:=λ {T}=>IS Q Iu On
  refine uY (S':=[]) (w:=W) ast Q Q ?_;simp+decide only[jd,aeX,VB,lk,bU,↓ky,eF,et,oJ,aiu,ajZ,ag9,amY,jx,iA YT,ade hR hm,hL,Y,D,uM,br]
 .intro i s;rw[aDH];simp+decide only[VB,lk,bU,↓ky,eF,et]
 .intro i s N;have F:((i:U)<(l.length:U))=True:=mU aa;have ha:l[i]? =O l[i]:=eg N;have y:(l.map λ n=>[eI n])[i]? =O [eI l[i]]:=bP;unfold EE;rw[ha];simp only;by_cases h0:0<=l[i]
  .rw[aY h0];by_cases Z:l[i].toNat<s.length/\s.length=m;.rw[aY Z];obtain⟨c2,c3⟩:=Z;obtain⟨z,hz⟩:∃z:R,l[i]=z:=⟨l[i].toNat,aa⟩;have A:l[i].toNat=z:=aa;rw[hz]at y;rw[A]at c2;have J:(decide (z+1<=s.length))=true:=jR aa;have K:z<m:=aa;have u:((z:U)>=0)=True:=mU aa;rw[A];simp+decide only[I4,VB,lk,bU,↓ky,eF,et,RB,U3,Zz,al6,abh,oJ,F,u,fc y,xX K,Fv c2,J,nZ (aa:i<=4611686018427387904)]
   rw[aR Z];trivial
  rw[aR h0];have u:(l[i]>=0)=False:=tQ aa;simp+decide only[I4,VB,lk,bU,↓ky,eF,et,RB,U3,Zz,abh,oJ,F,u,fc y,nZ (aa:i<=4611686018427387904)]
 .intro s;refine⟨?_,pO⟩;simp+decide only[I4,VB,lk,bU,↓ky,eF,et,RB,uN]
def Ma(kp into ma tr:aK)(m:R)(i:R)(s:aK):IL:=
 match into[i]?,kp[i]?with
 |O k,O a=>if 0<=a/\0<=k/\k.toNat<s.length/\s.length=m then
  (match ma[a.toNat]?with
  |O b=>if 0<=b then(match tr[b.toNat]?with|O x=>O (.inl (s.set k.toNat x))|X=>X)else X
  |X=>X)else X
 |_,_=>X
theorem ahT{kp into:aK}(M:into.length<=kp.length)(h1:∀k∈into,0<=k/\k<m)(h2:∀a∈kp,0<=a/\a<ma.length)(J:∀b∈ma,0<=b/\b<tr.length)(P:∀x∈tr,-1<=x/\x<=hi):
 ∀k i (s:aK),i+k=into.length->s.length=m->(∀x∈s,-1<=x/\x<=hi)->∃u,jC (Ma kp into ma tr m) k i s=O (.inl u)/\u.length=m/\∀x∈u,-1<=x/\x<=hi
 |0,i,s,h,y,F=>⟨s,Q,y,F⟩
 |k+1,i,s,h,y,F=>by
  have N:i<into.length:=aa;have D:i<kp.length:=aa;obtain⟨b1,b2⟩:=h2 _ (qP D);have A:kp[i].toNat<ma.length:=aa;obtain⟨Y,S⟩:=J _ (qP A);have e:Ma kp into ma tr m i s=O (.inl (s.set into[i].toNat tr[ma[kp[i].toNat].toNat])):=by grind[Ma,HF]
  simp only[jC,e];refine ahT M h1 h2 J P k (i+1) _ aa (by rw[zB];exact y) λ x K=>?_
  grind[anF,ak4]
def ES(m:R)(i:R)(p:aK×U):gw ((aK×U)⊕jH):=
 match p.1[i]?with
 |O x=>if p.1.length=m/\0<=p.2/\p.2<=1000000 then(if x<0 then O (.inl (p.1.set i p.2,p.2+1))else O (.inl p))else X
 |X=>X
theorem VX{hi:U}:∀k i (p:aK×U),i+k=m->p.1.length=m->0<=p.2->p.2+k<=1000000->p.2+k<=hi+1->(∀(j:R) x,p.1[j]? =O x->x<=hi/\(j<i->0<=x))->
 ∃u,jC (ES m) k i p=O (.inl u)/\u.1.length=m/\∀x∈u.1,0<=x/\x<=hi
 |0,i,p,h,y,_,_,_,A=>⟨p,Q,y,λ x hx=>by grind[List.getElem?_of_mem,aa3]⟩
 |k+1,i,p,h,y,h0,h5,J,A=>by
  by_cases F:p.1[i]<0
  .have e:ES m i p=O (.inl (p.1.set i p.2,p.2+1)):=by grind[ES]
   simp only[jC,e];refine VX (hi:=hi) k (i+1) _ aa (by grind[set,List.length_set]) (by show 0<=p.2+1;omega) aa (by show p.2+1+k<=_;omega) λ j x D=>?_
   grind[set]
  have e:ES m i p=O (.inl p):=by grind[ES]
  simp only[jC,e];refine VX (hi:=hi) k (i+1) p aa y h0 aa aa λ j x D=>?_
  grind
def aAw(hR:C7 base)(hm:m<=100000){kp into:aK}{n hi:U}(hl:into.length<=kp.length)(ap:into.length<=100000)(h1:∀k∈into,0<=k/\k<m)(h2:∀a∈kp,0<=a/\a<ma.length)(h3:∀b∈ma,0<=b/\b<tr.length)(h4:∀x∈tr,-1<=x/\x<=hi)
 (hn:0<=n) (an:n+m<=1000000) (am:n+m<=hi+1) (hh:0<=hi):
 ∃r:aK,r.length=m/\(∀x∈r,0<=x/\x<=hi)/\∀S,VW gl base 235 [eI (m:U),aO kp,aO into,aO ma,aO tr,eI n] S=O (aO r,S,W):=by
 obtain⟨r1,ah,M,ag⟩:=ahT hl h1 h2 h3 h4 into.length 0 (ef m (-1)) aa (mw ..) (λ x hx=>by rw[UR hx];omega);obtain⟨p,al,N,ai⟩:=VX (hi:=hi) m 0 (r1,n) aa M hn an am (λ j x hj=>⟨(ag x (iD hj)).2,λ h=>aa⟩);refine⟨p.1,N,ai,λ S=>?_⟩
 have hL:=uh (P:=af) (gl:=gl) (aae:=VW gl base) (n:=59) (len:=into.length) (C:=PJ) (Bqq:=NY) (f:=Ma kp into ma tr m)
  (TT:=λ i _=>[(1,aO kp),(3,aO ma),(4,aO tr),(5,eI n),(13,.ms 0 19 m 1),(20,aO into),(21,eI into.length),(22,eI i)]) (ST:=λ s=>(ez [(19,eC s)] []))
  (Xqq:=λ s=>(.exit 0,[(1,aO kp),(3,aO ma),(4,aO tr),(5,eI n),(13,.ms 0 19 m 1),(20,aO into),(21,eI into.length),(22,eI into.length),(23,eB W)],(ez [(19,eC s)] []))) ?_ ?_ ?_ into.length 0 (ef m (-1)) _ aa ah
 .have hL:cO af gl (VW gl base) 59 PJ [(1,aO kp),(3,aO ma),(4,aO tr),(5,eI n),(13,.ms 0 19 m 1),(20,aO into),(21,eI into.length),(22,eI 0)] (ez [(19,eC (ef m (-1)))] [])=_:=hL
  have hM:=uh (P:=af) (gl:=gl) (aae:=VW gl base) (n:=59) (len:=m) (C:=SQ) (Bqq:=HS) (f:=ES m)
   (TT:=λ i s=>[(5,eI s.2),(13,.ms 0 19 m 1),(42,eI m),(43,eI i)]) (ST:=λ s=>(ez [(19,eC s.1)] []))
   (Xqq:=λ s=>(.exit 2,[(5,eI s.2),(13,.ms 0 19 m 1),(42,eI m),(43,eI m),(44,eB W)],(ez [(19,eC s.1)] []))) ?_ ?_ ?_ m 0 (r1,n) _ aa al
  .have hM:cO af gl (VW gl base) 59 SQ [(5,eI n),(13,.ms 0 19 m 1),(42,eI m),(43,eI 0)] (ez [(19,eC r1)] [])=_:=hM;have ao:∀{T:VT},qV 19 T (ez [(19,eC p.1)] [])=_:=λ {T}=>IS Q Iu On
   refine uY (S':=[]) (w:=W) aJP Q Q ?_;simp+decide only[jd,ahp,VB,lk,bU,↓ky,eF,et,oJ,anq,aps,ajC,amK,anN,jx,iA YT,ade hR hm,hL,hM,ao,N,M,uM,br]
  .intro i s;rw[avv];simp+decide only[VB,lk,bU,↓ky,eF,et]
  .intro i s F;have A:((i:U)<(m:U))=True:=mU aa;unfold ES;cases hx:s.1[i]?;.trivial
   rename_i x;simp only;by_cases K:s.1.length=m/\0<=s.2/\s.2<=1000000
   .rw[aY K];obtain⟨c1,c2,c3⟩:=K;obtain⟨z,hz⟩:∃z:R,s.2=z:=⟨s.2.toNat,aa⟩;have hs:i<s.1.length:=aa;have y:(decide (i+1<=s.1.length))=true:=jR aa;have D:=aFg hx;rw[hz];have J:((z:U)+1)=((z+1:R):U):=rfl;by_cases h0:x<0;.rw[aY h0];have u:(x<0)=True:=mU h0;simp+decide only[HS,VB,lk,bU,↓ky,eF,et,SB,Z0,YR,amu,ah7,aaL,oJ,A,u,D,hz,J,xX F,Fv hs,y,nZ (aa:i<=4611686018427387904),nZ (aa:z<=4611686018427387904)]
    rw[aR h0];have u:(x<0)=False:=tQ h0;simp+decide only[HS,VB,lk,bU,↓ky,eF,et,SB,Z0,YR,aaL,oJ,A,u,D,hz,xX F,nZ (aa:i<=4611686018427387904)]
   rw[aR K];trivial
  intro s;refine⟨?_,pO⟩;simp+decide only[HS,VB,lk,bU,↓ky,eF,et,SB,uN]
 .intro i s;rw[aCI];simp+decide only[VB,lk,bU,↓ky,eF,et]
 .intro i s F;have A:((i:U)<(into.length:U))=True:=mU aa;unfold Ma;cases hk:into[i]?;.trivial
  rename_i k;cases ha:kp[i]?;.trivial
  rename_i a;simp only;by_cases K:0<=a/\0<=k/\k.toNat<s.length/\s.length=m
  .rw[aY K];obtain⟨c1,c2,c3,c4⟩:=K;cases hb:ma[a.toNat]?;.trivial
   rename_i b;simp only;by_cases Y:0<=b
   .rw[aY Y];cases hx:tr[b.toNat]?;.trivial
    rename_i x;simp only;obtain⟨Z,ac⟩:∃z:R,k=z:=⟨k.toNat,aa⟩;obtain⟨za,ae⟩:∃z:R,a=z:=⟨a.toNat,aa⟩;obtain⟨zb,ad⟩:∃z:R,b=z:=⟨b.toNat,aa⟩;subst ac ae ad;rw[KP]at hb hx c3⊢;have g1:(into.map λ n=>[eI n])[i]? =O [eI (Z:U)]:=bP;have g2:(kp.map λ n=>[eI n])[i]? =O [eI (za:U)]:=bP;have g3:(ma.map λ n=>[eI n])[za]? =O [eI (zb:U)]:=bP;have g4:(tr.map λ n=>[eI n])[zb]? =O [eI x]:=bP;have y:(decide (Z+1<=s.length))=true:=jR aa;have ab:Z<m:=aa;simp+decide only[NY,VB,lk,bU,↓ky,eF,et,abT,aff,ao1,ajG,oJ,A,fc g1,fc g2,fc g3,fc g4,xX ab,Fv c3,y,nZ (aa:i<=4611686018427387904)]
   rw[aR Y];trivial
  rw[aR K];trivial
 .intro s;refine⟨?_,pO⟩;simp+decide only[NY,VB,lk,bU,↓ky,eF,et,abT,uN]
end
section
variable{p:α->tD}
variable{gl:bH}{base:fi}
def BD{α:Type}(p:α->tD):R->B α->Ay
 |_,[]=>O (-1)
 |i,x::l=>match p x with|O V=>O (i:U)|O W=>BD p (i+1) l|X=>X
def Mx{α:Type}(p:α->tD):B α->tD
 |[]=>O W
 |x::l=>match p x with|O V=>O V|O W=>Mx p l|X=>X
theorem aiB:∀{l:B α} {i:R} {b:mi},Mx p l=O b->∃z,BD p i l=O z/\decide (z>=0)=b
 |[],i,b,h=>by cases h;exact⟨-1,Q,Q⟩
 |x::l,i,b,h=>by
  rw[Mx]at h;rw[BD];split at h;.grind
  .exact aiB h
  cases h
def Mv{α:Type}(p:α->tD)(Rqq:R->jH)(l:B α)(i:R)(_:Unit):gw (Unit⊕jH):=
 match l[i]?with
 |O x=>(match p x with|O V=>O (.inr (Rqq i))|O W=>O (.inl ())|X=>X)
 |X=>X
theorem aw1{Rqq:R->jH}{l:B α}:
 ∀k i z,i+k=l.length->BD p i (l.drop i)=O z->(z= -1/\jC (Mv p Rqq l) k i ()=O (.inl ()))\/∃j:R,z=j/\jC (Mv p Rqq l) k i ()=O (.inr (Rqq j)):=by
 intro k;induction k with
 |zero=>
  intro i z hi h;rw[OA aa]at h;cases h;exact .inl ⟨Q,Q⟩
 |succ k y=>
  intro i z hi h;have u:i<l.length:=aa;rw[uL u]at h;grind[BD,Mv,jC]
def aBE:ly af 201=true:=aH
def G8:ly af 145=true:=aH
def akP{aae:eE}{x:U}(K:l.length<=1000000){z:U}(h:BD (λ y=>O (decide (x=y))) 0 l=O z):jd af gl aae Ue [aO l,eI x] S=O (eI z,S,W):=by
 have hL:=uh (P:=af) (gl:=gl) (aae:=aae) (n:=19) (len:=l.length) (C:=L3) (Bqq:=HO) (f:=Mv (λ y=>O (decide (x=y))) (λ i=>(.ret,[(4,eI i)],(ez [] S))) l)
  (TT:=λ i _=>[(0,aO l),(1,eI x),(7,eI l.length),(8,eI i)]) (ST:=λ _=>(ez [] S))
  (Xqq:=λ _=>(.exit 0,[(0,aO l),(1,eI x),(7,eI l.length),(8,eI l.length),(9,eB W)],(ez [] S))) ?_ ?_ ?_ l.length 0 ()
 .have D:=aw1 (Rqq:=λ i=>(.ret,[(4,eI i)],(ez [] S))) l.length 0 z aa h;rcases D with⟨rfl,D⟩|⟨j,rfl,D⟩
  .have u:cO af gl aae 19 L3 [(0,aO l),(1,eI x),(7,eI l.length),(8,eI 0)] (ez [] S)=_:=hL _ aa D;simp+decide only[jd,Ue,VB,lk,bU,↓ky,eF,et,Xu,Y6,abZ,br,u]
  have u:cO af gl aae 19 L3 [(0,aO l),(1,eI x),(7,eI l.length),(8,eI 0)] (ez [] S)=_:=hL _ aa D;simp+decide only[jd,Ue,VB,lk,bU,↓ky,eF,et,Xu,Y6,abZ,br,u]
 .intro i s;rw[aFH];simp+decide only[VB,lk,bU,↓ky,eF,et]
 .intro i s hi;have A:((i:U)<(l.length:U))=True:=mU aa;have hx:l[i]? =O l[i]:=eg hi;have J:(l.map λ n=>[eI n])[i]? =O [eI l[i]]:=bP;simp only[Mv,hx];by_cases F:x=l[i];.simp only[jR F];refine⟨?_,pO⟩;simp+decide only[HO,VB,lk,bU,↓ky,eF,et,RW,ac8,Z8,acP,acN,A,fc J,jR F]
  simp only[my F];simp+decide only[HO,VB,lk,bU,↓ky,eF,et,RW,ac8,Z8,acP,acN,A,fc J,nZ (aa:i<=4611686018427387904),my F]
 intro s;refine⟨?_,pO⟩;simp+decide only[HO,VB,lk,bU,↓ky,eF,et,RW,uN]
def an3{p:α->mi}:∀{l:B α},Mx (λ y=>O (p y)) l=O (l.any p)
 |[]=>rfl
 |x::l=>by
  rw[Mx,UN];cases p x;.exact an3
  rfl
def EX{x:U}(A:l.length<=1000000):VW gl base 145 [aO l,eI x] S=O (eB (l.any λ y=>decide (x=y)),S,W):=by
 obtain⟨z,u,F⟩:=aiB (an3);have D:∀S,VW gl base 201 [aO l,eI x] S=O _:=λ S=>uY akI Q Q (akP A u)
 refine uY (S':=[]) (w:=W) aGi Q Q ?_;simp+decide [jd,ags,VB,lk,aky,aeG,iA aBE,D,F]
def N0(m:R)(kp im:aK)(i:R)(s:iu):gw (iu⊕jH):=
 match im[i]?with
 |O x=>if 0<=x/\x.toNat<m/\s.length=m then O (.inl (if kp.any (λ y=>decide ((i:U)=y))then s else s.set x.toNat V))else X
 |X=>X
theorem anr{kp:aK}(hx:∀x∈im,0<=x/\x<m):∀k i (s:iu),i+k=im.length->s.length=m->∃u,jC (N0 m kp im) k i s=O (.inl u)/\u.length=m/\((∀j,j<im.length->kp.any (λ y=>decide ((j:U)=y))=V)->u=s)
 |0,i,s,h,A=>⟨s,Q,A,λ _=>rfl⟩
 |k+1,i,s,h,A=>by
  have hi:i<im.length:=aa;have e:N0 m kp im i s=O (.inl (if kp.any (λ y=>decide ((i:U)=y))then s else s.set im[i].toNat V)):=by grind[N0,HF]
  simp only[jC,e];obtain⟨u,h1,h2,D⟩:=anr (kp:=kp) hx k (i+1) (if kp.any (λ y=>decide ((i:U)=y))then s else s.set im[i].toNat V) aa (by split<;>simp[A]);grind
def M2(u:iu)(i:R)(o:aK):IL:=
 match u[i]?with
 |O b=>if o.length<=i then O (.inl (if b then o else o++[(i:U)]))else X
 |X=>X
theorem amp{gone:iu}:∀k i (o:aK),i+k=gone.length->o.length<=i->(∀x∈o,0<=x/\x<i)->∃u,jC (M2 gone) k i o=O (.inl u)/\u.length<=gone.length/\(∀x∈u,0<=x/\x<gone.length)/\((∀b∈gone,b=W)->o=bI i->u=bI gone.length)
 |0,i,o,h,y,A=>⟨o,Q,aa,λ x hx=>by have:=A x hx;omega,λ _ e=>by rw[e];congr 1⟩
 |k+1,i,o,h,y,A=>by
  have e:M2 gone i o=O (.inl (if gone[i]then o else o++[(i:U)])):=by grind[M2,HF]
  simp only[jC,e]
  obtain⟨u,h1,h2,F,D⟩:=amp (gone:=gone) k (i+1) (if gone[i]then o else o++[(i:U)]) aa (by
   split;.omega
   .simpa using y) (λ x hx=>by
   grind)
  grind[ak4,bI,List.range_succ]
theorem aGk(hm:m<=100000){kp:aK}(hl:im.length<=100000)(hk:kp.length<=100000)(hx:∀x∈im,0<=x/\x<m):
 ∃r:aK,r.length<=m/\(∀x∈r,0<=x/\x<m)/\((∀j,j<im.length->kp.any (λ y=>decide ((j:U)=y))=true)->r=bI m)/\∀S,VW gl base 291 [eI (m:U),aO im,aO kp] S=O (aO r,S,W):=by
 obtain⟨g,hg,D,ag⟩:=anr (kp:=kp) hx im.length 0 (ef m W) aa (mw ..);obtain⟨r,hr,ae,ac,ab⟩:=amp (gone:=g) g.length 0 [] aa (aZ _) (λ x hx=>bk);refine⟨r,aa,λ x hx=>by have:=ac x hx;omega,λ ha=>?_,λ S=>?_⟩;.rw[<-D];exact ab (λ b hb=>bP) Q
 have hL:=uh (P:=af) (gl:=gl) (aae:=VW gl base) (n:=45) (len:=im.length) (C:=S4) (Bqq:=IN) (f:=N0 m kp im)
  (TT:=λ i _=>[(2,aO kp),(7,.ms 0 14 m 1),(15,aO im),(16,eI im.length),(17,eI i)]) (ST:=λ s=>(ez [(14,eD s)] []))
  (Xqq:=λ s=>(.exit 0,[(2,aO kp),(7,.ms 0 14 m 1),(15,aO im),(16,eI im.length),(17,eI im.length),(18,eB W)],(ez [(14,eD s)] []))) ?_ ?_ ?_ im.length 0 (ef m W) _ aa hg
 .have hL:cO af gl (VW gl base) 45 S4 [(2,aO kp),(7,.ms 0 14 m 1),(15,aO im),(16,eI im.length),(17,eI 0)] (ez [(14,eD (ef m W))] [])=_:=hL
  have F:=uh (P:=af) (gl:=gl) (aae:=VW gl base) (n:=45) (len:=g.length) (C:=Su) (Bqq:=Hx) (f:=M2 g)
   (TT:=λ i o=>[(10,.sl (o.map λ n=>[eI n]) (O 1)),(30,.ms 0 14 m 1),(31,eI m),(32,eI i)]) (ST:=λ _=>(ez [(14,eD g)] []))
   (Xqq:=λ o=>(.exit 2,[(10,.sl (o.map λ n=>[eI n]) (O 1)),(30,.ms 0 14 m 1),(31,eI m),(32,eI g.length),(33,eB W)],(ez [(14,eD g)] []))) ?_ ?_ ?_ g.length 0 [] _ aa hr
  .have F:cO af gl (VW gl base) 45 Su [(10,.sl [] (O 1)),(30,.ms 0 14 m 1),(31,eI m),(32,eI 0)] (ez [(14,eD g)] [])=_:=F;refine uY (S':=[]) (w:=W) awW Q Q ?_;simp+decide only[jd,ae3,VB,lk,bU,↓ky,eF,et,oJ,ak7,aki,aoI,am9,agw,aii,Tm (aa:m<=1073741824),hL,F,br,D,uM]
  .intro i s;rw[aBi];simp+decide only[VB,lk,bU,↓ky,eF,et]
  .intro i o hi;have u:((i:U)<(m:U))=True:=mU aa;have A:(eD g)[i]? =O (eB g[i]):=aB6 (eg hi);unfold M2;rw[eg hi];simp only;by_cases ho:o.length<=i
   .rw[aY ho];cases K:g[i];.rw[K]at A;simp+decide only[Hx,VB,lk,bU,↓ky,eF,et,jx,Pf,ZX,acf,X6,XY,oJ,u,xX (aa:i<m),A,nZ (aa:i<=4611686018427387904),JR (es:=o.map λ n=>[eI n]) (new:=[[eI (i:U)]]) (sz:=1) (o:=O 1) (FZ:(o.map λ n=>[eI n]).length+1<=1073741824) Q,zD,nA,KN]
    rw[K]at A;simp+decide only[Hx,VB,lk,bU,↓ky,eF,et,Pf,ZX,acf,X6,XY,oJ,u,xX (aa:i<m),A,nZ (aa:i<=4611686018427387904)]
   rw[aR ho];trivial
  intro o;refine⟨?_,pO⟩;simp+decide only[Hx,VB,lk,bU,↓ky,eF,et,Pf,D,uN]
 .intro i s;rw[awq];simp+decide only[VB,lk,bU,↓ky,eF,et]
 .intro i s hi;have u:((i:U)<(im.length:U))=True:=mU aa;have N:im[i]? =O im[i]:=eg hi;have he:(im.map λ n=>[eI n])[i]? =O [eI im[i]]:=bP;obtain⟨k1,k2⟩:=hx _ (qP hi);obtain⟨q,hq⟩:∃q:R,im[i]=q:=⟨im[i].toNat,aa⟩;unfold N0;rw[N];simp only;by_cases Z:s.length=m
  .rw[aY ⟨k1,aa,Z⟩];have ad:q<s.length:=aa;have M:(decide (q+1<=s.length))=true:=jR aa;rw[hq]at he;have Y:(im[i]).toNat=q:=aa;cases J:kp.any (λ y=>decide ((i:U)=y));.simp+decide only[IN,VB,lk,bU,↓ky,eF,et,Qu,ZG,abk,aa7,aac,oJ,u,iA G8,EX (aa:kp.length<=1000000),J,fc he,xX (aa:q<m),agh ad,M,Y,nZ (aa:i<=4611686018427387904)]
   simp+decide only[IN,VB,lk,bU,↓ky,eF,et,Qu,ZG,abk,aa7,aac,oJ,u,iA G8,EX (aa:kp.length<=1000000),J,fc he,nZ (aa:i<=4611686018427387904)]
  grind
 .intro s;refine⟨?_,pO⟩;simp+decide only[IN,VB,lk,bU,↓ky,eF,et,Qu,uN]
end
section
variable{gl:bH}{base:fi}
def ar3:ly af 134=true:=aH
def H6(m:R)(z:aK)(i:R)(s:iu):gw (iu⊕jH):=
 match z[i]?with
 |O x=>if 0<=x/\x.toNat<m/\s.length=m then O (.inl (s.set x.toNat V))else X
 |X=>X
theorem ah2{z:aK}(hx:∀x∈z,0<=x/\x<m):∀k i (s:iu),i+k=z.length->s.length=m->∃y,jC (H6 m z) k i s=O (.inl y)/\y.length=m
 |0,i,s,h,u=>⟨s,Q,u⟩
 |k+1,i,s,h,u=>by
  have e:H6 m z i s=O (.inl (s.set z[i].toNat V)):=by grind[H6]
  rw[jC,e];exact ah2 hx k _ _ aa (by rw[zB];exact u)
def we(r:iu):be:=[.sl (r.map λ b=>[eB b]) X]
def N5(row:R->iu)(i:R)(o:B iu):gw (B iu⊕jH):=if o.length<=i then O (.inl (o++[row i]))else X
theorem apm{row:R->iu}(A:∀a,(row a).length=m):∀k i (o:B iu),o.length=i->(∀r∈o,r.length=m)->∃u,jC (N5 row) k i o=O (.inl u)/\u.length=i+k/\∀r∈u,r.length=m
 |0,i,o,h,y=>⟨o,Q,h,y⟩
 |k+1,i,o,h,y=>by
  rw[jC,(show N5 row i o=O (.inl (o++[row i])) by grind[N5])];obtain⟨u,h1,h2,D⟩:=apm A k (i+1) (o++[row i]) (by simp[h]) (λ r hm=>by grind)
  exact⟨u,h1,aa,D⟩
def aFv{N E:aP}(hN:N.length<=1000)(hB:∀a:R,a<N.length->∃z:aK,z.length<=1000/\(∀v∈z,0<=v/\v<N.length)/\∀S,VW gl base 134 [.agg [.sl N X,.sl E X],eI (a:U)] S=O (.bp [aO z,eI 0],S,W)):
 ∃rows:B iu,rows.length=N.length/\(∀r∈rows,r.length=N.length)/\∀S,VW gl base 299 [.agg [.sl N X,.sl E X]] S=O (.sl (rows.map we) (O 1),S,W):=by
 have D:∀a:R,∃p:aK×iu,p.2.length=N.length/\(a<N.length->p.1.length<=1000/\jC (H6 N.length p.1) p.1.length 0 (ef N.length W)=O (.inl p.2)/\∀S,VW gl base 134 [.agg [.sl N X,.sl E X],eI (a:U)] S=O (.bp [aO p.1,eI 0],S,W)):=λ a=>by
  by_cases ha:a<N.length;.obtain⟨z,z1,z2,z3⟩:=hB a ha;obtain⟨s,s1,s2⟩:=ah2 z2 z.length 0 (ef N.length W) aa (mw ..);exact⟨(z,s),s2,λ _=>⟨z1,s1,z3⟩⟩
  exact⟨([],ef N.length W),mw ..,λ h=>absurd h ha⟩
 have ab:=apP D;clear hB D;obtain⟨f,hf⟩:=ab;obtain⟨o,o1,o2,o3⟩:=apm (row:=λ a=>(f a).2) (λ a=>(hf a).1) N.length 0 [] Q (λ r hr=>bk);refine⟨o,aa,o3,λ S=>?_⟩
 have hL:=uh (P:=af) (gl:=gl) (aae:=VW gl base) (n:=42) (len:=N.length) (C:=P6) (Bqq:=Og) (f:=N5 λ a=>(f a).2)
  (TT:=λ i o=>[(1,.ptr 0 1 0),(3,.sl (o.map we) (O 1)),(12,eI N.length),(13,eI i)]) (ST:=λ _=>(ez [(1,[.sl N X,.sl E X])] []))
  (Xqq:=λ o=>(.exit 0,[(1,.ptr 0 1 0),(3,.sl (o.map we) (O 1)),(12,eI N.length),(13,eI N.length),(14,eB W)],(ez [(1,[.sl N X,.sl E X])] []))) ?_ ?_ ?_ N.length 0 [] _ aa o1
 .have hL:cO af gl (VW gl base) 42 P6 [(1,.ptr 0 1 0),(3,.sl [] (O 1)),(12,eI N.length),(13,eI 0)] _=_:=hL;refine uY (S':=[]) (w:=W) aAV Q Q ?_;simp+decide only[jd,aoJ,VB,lk,bU,↓ky,eF,et,oJ,aeF,ahr,ahP,aoE,jx,hL,uM,br]
 .intro i s;rw[aHT];simp+decide only[VB,lk,bU,↓ky,eF,et]
 .intro i o hi;have Y:((i:U)<(N.length:U))=True:=mU aa;obtain⟨g1,F⟩:=hf i;obtain⟨F,g3,g4⟩:=F hi;unfold N5;by_cases ho:o.length<=i
  .rw[aY ho];simp only[];clear hf o1;generalize f i=p at*;obtain⟨z,r⟩:=p;have F:z.length<=1000:=F
   have hM:=uh (P:=af) (gl:=gl) (aae:=VW gl base) (n:=42) (len:=z.length) (C:=Pt) (Bqq:=MR) (f:=H6 N.length z)
    (TT:=λ j _=>[(1,.ptr 0 1 0),(3,.sl (o.map we) (O 1)),(5,.ms 0 19 N.length 1),(12,eI N.length),(13,eI i),(26,aO z),(27,eI z.length),(28,eI j)]) (ST:=λ s=>(ez [(1,[.sl N X,.sl E X]),(19,eD s)] []))
    (Xqq:=λ s=>(.exit 2,[(1,.ptr 0 1 0),(3,.sl (o.map we) (O 1)),(5,.ms 0 19 N.length 1),(12,eI N.length),(13,eI i),(26,aO z),(27,eI z.length),(28,eI z.length),(29,eB W)],(ez [(1,[.sl N X,.sl E X]),(19,eD s)] []))) ?_ ?_ ?_ z.length 0 (ef N.length W) _ aa g3
   .have hM:cO af gl (VW gl base) 42 Pt [(1,.ptr 0 1 0),(3,.sl (o.map we) (O 1)),(5,.ms 0 19 N.length 1),(12,eI N.length),(13,eI i),(26,aO z),(27,eI z.length),(28,eI 0)] _=_:=hM;have Z:∀{T:VT},qV 19 T (ez [(1,[.sl N X,.sl E X]),(19,eD r)] [])=_:=λ {T}=>IS Q apy aHV
    have g1:r.length=N.length:=g1;simp+decide only[Og,VB,lk,bU,↓ky,eF,et,oJ,ac1,apn,ahJ,agc,af6,akc,aoh,jx,Y,Tm (aa:N.length<=1073741824),iA ar3,g4,hM,Z,g1,uM,br,JR (es:=o.map we) (new:=[[ak.sl (r.map λ b=>[eB b]) X]]) (sz:=1) (o:=O 1) (FZ:(o.map we).length+1<=1073741824) Q,we,zD,nA,KN,nZ (aa:i<=4611686018427387904)]
   .intro j s;rw[aBH];simp+decide only[VB,lk,bU,↓ky,eF,et]
   .intro j s hj;have y:((j:U)<(z.length:U))=True:=mU aa;have J:z[j]? =O z[j]:=eg hj;have he:(z.map λ n=>[eI n])[j]? =O [eI z[j]]:=bP;unfold H6;rw[J];simp only;by_cases u:0<=z[j]/\z[j].toNat<N.length/\s.length=N.length;.rw[aY u];obtain⟨q,hq⟩:∃q:R,z[j]=q:=⟨z[j].toNat,aa⟩;have M:q<s.length:=aa;have A:(decide (q+1<=s.length))=true:=jR aa;have K:(z[j]).toNat=q:=aa;rw[hq]at he;simp+decide only[MR,VB,lk,bU,↓ky,eF,et,aaA,agB,apw,aiF,oJ,y,fc he,xX (aa:q<N.length),agh M,A,K,nZ (aa:j<=4611686018427387904)]
    rw[aR u];trivial
   intro s;refine⟨?_,pO⟩;simp+decide only[MR,VB,lk,bU,↓ky,eF,et,aaA,uN]
  rw[aR ho];trivial
 .intro s;refine⟨?_,pO⟩;simp+decide only[Og,VB,lk,bU,↓ky,eF,et,ac1,uN]
end
section
variable{es:lT}{l:jh}{r:VT×aG}{t:R}
variable{gl:bH}{base:fi}
section
variable{P:aA}{aae:eE}{n:R}{T Uqq:VT}{st bF:aG}
def uq(P:aA)(gl:bH)(Uqq:VT)(bF:aG)(d:fV)(c:CO):kX:=bw P gl oc Uqq bF d (wv c)
def aJJ{f:eK}{a:wH}:uq P gl Uqq bF d (.cl f a)=none:=by
 show Dv P gl oc Uqq bF f a=none;unfold Dv;split
 .split;.rfl
  rfl
 rfl
def aE7{x:eK}:uq P gl Uqq bF d (.mv x)=bw P gl oc Uqq bF d (.mv x):=rfl
def aI0{c x:eK}:uq P gl Uqq bF d (.pk c x y)=bw P gl oc Uqq bF d (.pk c x y):=rfl
def ass{o:BinOp}{x:eK}:uq P gl Uqq bF d (.bn o t x y)=bw P gl oc Uqq bF d (.bn o t x y):=rfl
def ax5{x:eK}:uq P gl Uqq bF d (.nl x)=bw P gl oc Uqq bF d (.nl x):=rfl
def ayw{o:R}{x:eK}:uq P gl Uqq bF d (.fa o x)=bw P gl oc Uqq bF d (.fa o x):=rfl
def aGo{a:bA}{x:eK}:uq P gl Uqq bF d (.ia a b x y)=bw P gl oc Uqq bF d (.ia a b x y):=rfl
def aDR{tk a:mi}{x:eK}:uq P gl Uqq bF d (.ld tk a m x)=bw P gl oc Uqq bF d (.ld W a m x):=rfl
def bNx(P:aA)(gl:bH)(aae:eE)(n:R)(bef:jQ)(bF:aG)(l:jh)(i:R)(T Uqq:VT)(d:fV)(r:VR)(u:ak):yZ->sT
 |O Z=>oG P gl aae n bef bF l (i+1) Z (fk n (kI r.src T) d r.v) (fk n Uqq d u) r.st
 |X=>X
def aDN{u:ak}:bNx P gl aae n bef bF l i T Uqq d ⟨v,src,st,e⟩ u (O Z)=oG P gl aae n bef bF l (i+1) Z (fk n (kI src T) d v) (fk n Uqq d u) st:=rfl
def Ol(P:aA)(gl:bH)(aae:eE)(n:R)(bef:jQ)(bF:aG)(l:jh)(i:R)(Z:iq)(T Uqq:VT)(d:fV)(r:VR)(q:GS):sT:=bNx P gl aae n bef bF l i T Uqq d r (Bv q) (zp Z (nM (bef.getD i []) i Z r.e) q)
def as5{q:GS}:Ol P gl aae n bef bF l i Z T Uqq d ⟨v,src,st,e⟩ q=bNx P gl aae n bef bF l i T Uqq d ⟨v,src,st,e⟩ (Bv q) (zp Z (nM (bef.getD i []) i Z e) q):=rfl
def Lo(P:aA)(gl:bH)(aae:eE)(n:R)(bef:jQ)(bF:aG)(l:jh)(i:R)(Z:iq)(T Uqq:VT)(d:fV)(c:CO):kX->sT
 |O r=>Ol P gl aae n bef bF l i Z T Uqq d r (nG Z.es r.e (uq P gl Uqq bF d c))
 |X=>X
def au0{c:CO}{pd:bG}{al an:mi}{rs:L8}:Lo P gl aae n bef bF l i ⟨pd,es,al,an,rs⟩ T Uqq d c (O ⟨v,src,st,e⟩)=Ol P gl aae n bef bF l i ⟨pd,es,al,an,rs⟩ T Uqq d ⟨v,src,st,e⟩ (nG es e (uq P gl Uqq bF d c)):=rfl
def aDJ:oG P gl aae n bef bF [] i Z T Uqq st=O (Z,T,st):=rfl
def au4{d:R}{c:CO}:oG P gl aae n bef bF (mM d c::l) i Z T Uqq st=Lo P gl aae n bef bF l i Z T Uqq (O d) c (bw P gl aae T st (O d) c):=by
 rw[oG];cases bw P gl aae T st _ c;.rfl
 rename_i r;simp[Lo,Ol,uq];cases zp Z _ _<;>rfl
def aB9{d:R}{b:mi}{c:CO}(h:mq T t=eB b):oG P gl aae n bef bF (Qqq d t b c::l) i Z T Uqq st=Lo P gl aae n bef bF l i Z T Uqq (O d) c (bw P gl aae T st (O d) c):=by
 simp only[oG,zH,h,apI];cases bw P gl aae T st _ c;.rfl
 rename_i r;simp[Lo,Ol,uq];cases zp Z _ _<;>rfl
def aue:nG es .pure (O ⟨v,src,st,.pure⟩)=O (v,W):=rfl
def aIX:nG es (.read b) (O ⟨v,src,st,.read X⟩)=O (v,V):=rfl
def aq9{p:sj}(h:MV es=V):nG es (.read b) (O ⟨v,src,st,.read (O p)⟩)=O (v,W):=by rw[nG,adB h]
def aBn:nG es e none=none:=by cases e<;>rfl
def aqc{d:vN}{x:kX}:nG es (.eO d) x=none:=rfl
def aFU{z:yZ}:zp Z z (O (v,V))=O Z:=rfl
def azY{z:yZ}:zp Z z (O (v,W))=z:=rfl
def aIk{z:yZ}:zp Z z X=z:=rfl
def aAX{b:mi}:Bv (O (v,b))=v:=rfl
def aqr:Bv X=.bp []:=rfl
def aaE:∀{l:jh} {i:R} {Z D:iq} {T Uqq:VT} {st:aG} {r y:iq×VT×aG},nD P gl aae n bef l i Z T st=O r->oG P gl aae n bef bF l i D T Uqq st=O y->r.2=y.2
 |[],i,Z,D,T,Uqq,st,r,y,h,u=>by cases h;cases u;rfl
 |e::l,i,Z,D,T,Uqq,st,r,y,h,u=>by
  rw[nD]at h;rw[oG]at u;split at h
  .rename_i A;rw[A]at u;split at h
   .rename_i x hx;simp[hx]at u;split at h
    .split at u;.exact aaE h u
     cases u
    cases h
   cases h
  .rename_i A;rw[A]at u;exact aaE h u
  cases h
theorem ajo{x:sT}(h:wy bef x=O r):∃Z,x=O (Z,r):=by unfold wy at h;grind
theorem aBj(h:Nn bef (oG P gl aae n bef st l 0 ⟨[],[],W,W,[]⟩ T T st)=O r):yU P gl aae n l bef T st=O r:=by
 unfold yU;cases hx:wy bef _;.exact h
 rename_i x;obtain⟨Z,y⟩:=ajo hx;obtain⟨A,u⟩:=ajo h;exact fP O (aaE y u)
end
end
section
variable{F:lU}
def Mi:jh:=[mM 2 (.bx W (.t 0)),mM 4 (.tk 4 (.v (.sl [] (O 0))))]
def OK:jh:=[mM 5 (.mv (.t 1)),mM 6 (.bn .lss 3 (.t 5) (.i 0))]
def adK:jh:=[mM 4 (.tk 4 (.v (.sl [] (O 0))))]
def SZ:jh:=[mM 8 (.ld W V 2 (.t 2)),mM 9 (.fa 0 (.t 2)),mM 10 (.ld W W 1 (.t 9)),mM 11 (.mv (.t 1)),mM 12 (.ia (O 4) X (.t 10) (.t 11)),mM 13 (.fa 1 (.t 12)),mM 14 (.ld W W 1 (.t 13)),mM 15 (.cl (.f 88) [(.t 8),(.t 14)]),mM 7 (.bs 4 [.sc (.str []),.sc (ao 0),.sc (ao 0),.sl [] X] 0 []),mM 16 (.ap 4 (.t 7) (.t 15)),mM 17 (.fa 0 (.t 2)),mM 18 (.ld W W 1 (.t 17)),mM 19 (.mv (.t 1)),mM 20 (.ia (O 4) X (.t 18) (.t 19)),mM 21 (.fa 3 (.t 20)),mM 22 (.ld W W 1 (.t 21)),mM 23 (.ap 4 (.t 16) (.t 22)),mM 4 (.tk 4 (.t 23))]
abbrev Sy:jQ:=[[],[],[1],[],[1,2,3],[1,2,3,4],[1,2,3,4,5],[0,1,2,3,4,5,6],[],[0,1,2,3,4,5,6,7,8],[],[10],[],[10,11,12],[10,11,12,13],[10,11,12,13,14],[0,1,2,3,4,5,6,7,8,9,10,11,12,13,14,15],[0,1,2,3,4,5,6,7,8,9,10,11,12,13,14,15,16]]
def SS:lU:=⟨.seq (.bh Mi (O ([1,2],[2]))) (.seq (.seq (.bh OK (O ([1,2,6],[2]))) (.cond (.t 6) (.seq (.bh adK (O ([4],[]))) (.ret)) (.skip))) (.seq (.xQ SZ Sy (O ([4],[]))) (.ret))),24,[.t 4]⟩
def ak8:mh:=⟨[(0,[1,2],[2]),(1,[1,2,6],[2]),(2,[4],[]),(3,[4],[])],[],[7,16,4],[]⟩
def Ul(P:aA)(id0 k:R)(u:mh)(f:ck):gw lU:=
 match P.funcs[f]?with
 |O fn=>match fn.body with
  |O c=>(match wF id0 k c with
   |V=>match qu P u (zx id0 k c),zM P fn.results.toList with
    |O y,O rs=>O ⟨y,fn.ntmps,rs⟩
    |_,_=>X
   |W=>X)
  |X=>X
 |X=>X
theorem agE{u:mh}{f:ck}(h:Ul P id0 k u f=O F):∃fn c,P.funcs[f]? =O fn/\fn.body=O c/\wF id0 k c=V/\qu P u (zx id0 k c)=O F.c/\fn.ntmps=F.n/\zM P fn.results.toList=O F.r:=by grind[Ul]
theorem anl:Ul af 3 8 ak8 88=O SS:=aH
def arC{pol:pz}{f:ck}{args:be}{r:TC}(y:Ul P id0 k (pol f) f=O F)
 (h:jd P gl aae F args S=O r):∃m,R9 P id0 k pol gl aae m f args S=O r:=by
 obtain⟨fn,c,h1,h2,_,D,A,h5⟩:=agE y;unfold jd at h;rw[<-A,<-PE D,<-aaZ h5]at h;cases u:CQ P _ gl aae _ _ _ _;.rw[u]at h;cases h
 .rename_i x;obtain⟨m,hm⟩:=Ll.1 u;refine⟨m,?_⟩;rw[u]at h;unfold R9;simp[h1,h2,hm];obtain⟨e⟩:=x;cases e with
  |exit id=>cases h
  |normal=>exact h
  |ret=>exact h
def zS(tn:aP)(i:R):aP:=match tn[i]?with
 |O [_,_,_,.sl l _]=>l
 |_=>[]
def dP(tn:aP):R->U->aP
 |0,_=>[]
 |f+1,a=>if a<0 then[]else dP tn f (mR tn a.toNat)++zS tn a.toNat
def sO(tn:aP):Prop:=tn.length<=1000/\∀i,i<tn.length->∃y p u l,tn[i]? =O [y,.sc (ao p),u,.sl l X]/\ -1<=p/\p<i/\l.length<=1000/\km 4 l=V
theorem aku{tn:aP}(u:sO tn):∀{f:R} {a:U},a<tn.length->(dP tn f a).length<=1000*f
 |0,_,_=>kG _
 |f+1,a,D=>by
  unfold dP;split;.exact kG _
  obtain⟨J,p,F,l,e,A,y,l1,_⟩:=u.2 _ (aa:a.toNat<tn.length);have h1:(dP tn f (mR tn a.toNat)).length<=1000*f:=aku u (by simp only[mR,e];omega);grind[zS,Nat.mul_succ]
theorem ag8{tn:aP}(u:sO tn):∀{f:R} {a:U},a<tn.length->km 4 (dP tn f a)=true
 |0,_,_=>rfl
 |f+1,a,D=>by
  unfold dP;split;.rfl
  obtain⟨J,p,F,l,e,A,y,l1⟩:=u.2 _ (aa:a.toNat<tn.length);have h1:km 4 (dP tn f (mR tn a.toNat))=true:=ag8 u (by simp[mR,e];omega);grind[km,zS]
theorem O9{tn:aP}(y:sO tn):∀{f g:R} {a:U},a<f->f<=g->a<tn.length->dP tn g a=dP tn f a
 |0,0,a,h1,h2,u=>rfl
 |0,g+1,a,h1,h2,u=>by grind[dP]
 |f+1,0,a,h1,h2,u=>by omega
 |f+1,g+1,a,h1,h2,u=>by
  unfold dP;split;.rfl
  obtain⟨K,p,J,l,e,D,A,l1,F⟩:=y.2 _ (aa:a.toNat<tn.length);rw[O9 y (f:=f) (by simp[mR,e];omega) aa (by simp[mR,e];omega)]
def aH0{bF:aG}{z:be}{u:xB}:uq P gl Uqq bF d (.bs sz z m u)=bw P gl oc Uqq bF d (.bs sz z m u):=rfl
def aB5{bF:aG}{x:eK}:uq P gl Uqq bF d (.ap sz x y)=bw P gl oc Uqq bF d (.ap sz x y):=rfl
def azm{es:lT}{b:mi}{x:kX}:nG es (.new b) x=none:=rfl
def axt{bF:aG}{x:eK}:uq P gl Uqq bF d (.tk sz x)=bw P gl oc Uqq bF d (.mv x):=rfl
theorem aF3{tn te:aP}(J:sO tn){f:R}(hf:f<=1000){a:U}(ha:a<tn.length)
 (D:0<=a->∀S,aae 88 [.agg [.sl tn X,.sl te X],eI (mR tn a.toNat)] S=O (.sl (dP tn f (mR tn a.toNat)) (O 4),S,W)) (S:gC):
 jd af gl aae SS [.agg [.sl tn X,.sl te X],eI a] S=O (.sl (dP tn (f+1) a) (O 4),S,W):=by
 by_cases h0:a<0
 .have:dP tn (f+1) a=[]:=by unfold dP;rw[aY h0]
  rw[this];simp+decide only[jd,SS,VB,lk,bU,↓ky,eF,et,Mi,OK,adK,jR h0]
 .obtain⟨i,rfl⟩:∃i:R,a=i:=⟨a.toNat,aa⟩;have hi:i<tn.length:=aa;obtain⟨c0,p,c2,l,e,p1,p2,l1,N⟩:=J.2 _ hi;have Y:mR tn i=p:=by simp only[mR,e]
  have ab:zS tn i=l:=by simp only[zS,e]
  have P:dP tn (f+1) (i:U)=dP tn f p++l:=by grind[dP,mR,zS,Int.toNat_natCast]
  have D:=D aa;rw[KP,Y]at D;have M:=aku J (f:=f) (a:=p) aa;have Z:=ag8 J (f:=f) (a:=p) aa;have K:∀st,qt st 4 (.sl [] (O 4)) (.sl (dP tn f p) (O 4))=O (.sl (dP tn f p) (O 4)):=λ st=>by grind[JR,List.length_nil]
  have A:∀st,qt st 4 (.sl (dP tn f p) (O 4)) (.sl l X)=O (.sl (dP tn f p++l) (O 4)):=λ st=>JR aa N
  rw[P];have F:sF 4 (ef 0 [ak.sc (.str []),.sc (ao 0),.sc (ao 0),.sl [] X]) []=O []:=rfl;have u:ly af 88=true:=aH
  have y:∃T',yU af gl aae 24 SZ Sy [(1,eI i),(2,.ptr S.length 2 0),(6,eB W)] (ez [(2,[.sl tn X,.sl te X])] S)=O (T',(ez [(2,[.sl tn X,.sl te X])] S))/\lk T' 4=O (.sl (dP tn f p++l) (O 4)):=by
   have hx:∃x,Nn Sy (oG af gl aae 24 Sy (ez [(2,[.sl tn X,.sl te X])] S) SZ 0 ⟨[],[],W,W,[]⟩ [(1,eI i),(2,.ptr S.length 2 0),(6,eB W)] [(1,eI i),(2,.ptr S.length 2 0),(6,eB W)] (ez [(2,[.sl tn X,.sl te X])] S))=O x/\(x.2=(ez [(2,[.sl tn X,.sl te X])] S)/\lk x.1 4=O (.sl (dP tn f p++l) (O 4))):=by simp+decide only[VB,lk,bU,↓ky,eF,et,SZ,fc e,iA u,D,K,A,F,aH0,aB5,axt,aJJ,aE7,aI0,ass,ax5,ayw,aGo,aDR,aDN,as5,au0,aDJ,au4,aB9,aue,aIX,aq9,aBn,aqc,azm,aFU,azY,aIk,aAX,aqr,AW,exists_eq_left']
   grind[aBj]
  obtain⟨T',r1,r2⟩:=y;show yQ _ (cO af gl aae 24 (.seq (.bh Mi _) _) _ _)=_;rw[Fk];have hA:cO af gl aae 24 (.bh Mi (O ([1,2],[2]))) [(0,.agg [.sl tn X,.sl te X]),(1,eI i)] (ez [] S)=O (.normal,[(1,eI i),(2,.ptr S.length 2 0)],(ez [(2,[.sl tn X,.sl te X])] S)):=by simp+decide only[VB,lk,bU,↓ky,eF,et,Mi]
  have hB:cO af gl aae 24 (.seq (.bh OK (O ([1,2,6],[2]))) (.cond (.t 6) (.seq (.bh adK (O ([4],[]))) .ret) .skip)) [(1,eI i),(2,.ptr S.length 2 0)] (ez [(2,[.sl tn X,.sl te X])] S)=O (.normal,[(1,eI i),(2,.ptr S.length 2 0),(6,eB W)],(ez [(2,[.sl tn X,.sl te X])] S)):=by simp+decide only[VB,lk,bU,↓ky,eF,et,OK,my h0]
  refine(fP (λ z=>yQ _ (wO _ z)) hA).trans ?_;rw[Ys,Fk];refine(fP (λ z=>yQ _ (wO _ z)) hB).trans ?_;rw[Ys,Fk,acv,r1];simp+decide only[VB,lk,bU,↓ky,eF,et,r2,SS]
end
section
variable{l:B Ah}
variable{ng:R}{aae:bg}
def fl(l:Ah):aF:=l.flatten
def F4(l:Ah):Prop:=∀e∈l,e.length=4/\e.all au.dm=V
theorem RR:∀{l:Ah},F4 l->(fl l).length=l.length*4
 |[],_=>rfl
 |e::l,h=>by
  have h1:=(h e dJ).1;have h2:=RR λ x hx=>h x (cV _ hx)
  grind[fl]
theorem Zb:∀{l:Ah},F4 l->(fl l).all au.dm=V
 |[],_=>rfl
 |e::l,h=>by
  have h1:=(h e dJ).2;have h2:=Zb λ x hx=>h x (cV _ hx)
  grind[fl]
theorem avf(a b:Ah):fl (a++b)=fl a++fl b:=List.flatten_append ..
def Fb:aF:=[ao 0,ao 0,.bool W,ao 0]
def am6:F4 (ef n Fb):=λ e u=>(UR u)▸⟨Q,Q⟩
def adO:Tryz.prog.info? 159=O Tryz.t159:=aH
theorem aiL:∃z,fW af 159=O z/\z.cells=Fb:=by
 refine⟨(match fW af 159 with|O z=>z|X=>.fq),?_,aH⟩;have h:(match fW af 159 with|O _=>true|X=>W)=true:=aH;grind
def aId{H:aj}{x:au}{new:aF}(A:lenOf x=O n)(D:er H.ah.get 4 n x=O new):iC af H [154,154] [s,x]=gM H 4 32 s n new:=by obtain⟨z,y,u⟩:=aiL;have h1:Tryz.t159.size=4:=rfl;have h2:Tryz.t159.bytes=32:=rfl;simp+decide [iC,adO,y,(show z.cells.length=4 by rw[u];rfl),h1,h2,A,D]
def uZ(h:i<=1000000):cY P .add t (aW i) (ao 1)=O (aW (i+1)):=by rw[Ir (by unfold sP;simp;omega)];rfl
def ae2:Tryz.prog.info? 154=O Tryz.t154:=aH
def ajL{v:R}{c:au}(h:aQ g v off 1=O [c]):cr af g 154 (.ptr v off)=O c:=by rw[cr,h];rfl
def azl{H:aj}{l:Ah}(h:jX H.ah.get 4 l.length a (fl l)):iC af H [154,154] [s,a]=gM H 4 32 s l.length (fl l):=aId h.lenOf h.cells
def Ai(H:aj)(fm:bA):Prop:=fm=X\/∃f,H.ae<=f/\fm=O f
def Ai.f{H:aj}(h:Ai H fm):lq H fm:=λ f e=>by
 rcases h with rfl|⟨u,h1,rfl⟩<;>cases e
 exact h1
def Fr.into{H K':aj}(g:Good H)(h:Fr X H K)(k:Fr fm K K')(u:Ai H fm):Fr X H K':=h.jv g k u.f
def Ai.into{H:aj}{fm':bA}(h:Ai H fm)(u:H.ae<=K.ae)(k:fm'=fm\/∃f,K.ae<=f/\fm'=O f):Ai H fm':=by
 rcases k with rfl|⟨f,h1,rfl⟩
 .exact h
 exact .inr ⟨f,aa,Q⟩
def MX(g:fE)(s:au)(l:B Ah):Prop:=∃cs,jX g 1 l.length s cs/\∀(i:R) (z:Ah) (c:au),l[i]? =O z->cs[i]? =O c->jX g 4 z.length c (fl z)/\z.length<=2000/\F4 z
def SF{a b:U}(h:sP (a-b)):cY P .sub t (ao a) (ao b)=O (ao (a-b)):=by show O _=_;rw[FH h]
def alp:Dy af g 154 .aq=O (ao 0):=aH
def amj:dh af 154 .aq=O (ao 0):=aH
def axD:kU af g 154 .aq X (O (ao 0))=O .aq:=aH
theorem auW{H:aj}(h:cm H 4 n s cs fm)(J:1<=n):∃A,kU af H.ah.get 154 s X (O (ao 0))=O A/\cm H 4 0 A [] fm:=by
 obtain⟨h1,⟨_,rfl,_⟩|⟨v,r,rfl,o,u,K,F,rfl⟩⟩:=h;.omega
 obtain⟨m,rfl⟩:∃m,n=m+1:=⟨n- 1,aa⟩;refine⟨.slice v 0 0 X,?_,Q,.inr ⟨v,r,Q,o,u,aa,aw,Q⟩⟩;have y:jy H.ah.get 4 (.slice v 0 (m+1) X)=O (r.exact,r.cells.length/4):=by simp[jy,o.row,u];grind[hP]
 have D:Tryz.t159.size=4:=rfl;simp only[kU,ajs,adO,D,y,oM];grind[hP]
theorem ayv(n:R):jS Fb n=fl (ef n Fb):=by
 induction n with
 |zero=>rfl
 |succ n u=>grind[jS,fl]
theorem arT{H:aj}{n:R}{s:au}(h:1<=n)(F:n<=2000):iC af H [154,3] [s,aW n]=gM H 4 32 s n (fl (ef n Fb)):=by
 obtain⟨z,y,u⟩:=aiL;have A:Tryz.t159.size=4:=rfl;have D:Tryz.t159.bytes=32:=rfl;simp only[iC,ajs,avn,adO,y,A,D,u,show gr Fb.length 4=V from Q];have e1:n.beq 0=false:=by cases n with|zero=>omega|succ n=>rfl
 grind[lg,hP,th,ayv,ayI]
def aH3{H:aj}(g:Good H){n:R}(S:n<=2000):
 ∃r,fp af ng aae 212 [.aq,aW n] H r/\∃fm,cm r.2 4 0 r.1 [] fm/\Fr X H r.2/\Good r.2/\Ai H fm:=by
 refine lp Tryz.func212 Q ?_;show bB af ng aae 27 _ _ _ _;have y:ai (eH [.aq,aW n] 0 .nil) 0=.aq:=rfl;have D:ai (eH [.aq,aW n] 0 .nil) 1=aW n:=rfl;refine aB (lR (by simp+decide only[gG,fR,gH,cn,AB];rfl) ?_);refine aB (aB (lR (by simp+decide only[gG,fR,gH,cn,AB,D];rfl) ?_));refine eX (v:=decide (gu n<0)) (by simp+decide only[gG,fR,gH,cn,AB]) (λ M=>?_) (λ _=>?_);.simp at M;omega
 have i1:sP (0- 0):=xT;have i2:sP (gu n-(0- 0)):=by unfold sP;simp only[Cw];omega
 have i3:gu n-(0- 0)=gu n:=aa;refine fZ (aB (aB (lR (by simp+decide only[gG,fR,gH,cn,AB,y,D,alp,amj,SF i1,SF i2,i3];rfl) ?_)));refine aB (lR (by simp+decide only[gG,fR,gH,cn,AB];rfl) ?_);refine eX (v:=decide (gu n>0)) (by simp+decide only[gG,fR,gH,cn,AB]) (λ u=>?_) (λ Y=>?_)
 .have u:1<=n:=by simp at u;omega
  obtain⟨s3,H3,P,N,J,f3,g3,A⟩:=yp (sz:=4) (k:=n) (bytes:=32) (new:=fl (ef n Fb)) (s:=.aq) (cs:=[]) (n:=0) (fm:=X) g aa ⟨Q,.inl ⟨Q,Q,Q⟩⟩ (by rw[RR am6,mw]) (Zb am6) mE mE;obtain⟨s4,K,F⟩:=auW J aa;refine lR (by simp+decide only[gG,fR,gH,cn,AB,y,alp,amj,xn,vg,axD,arT u S,N,K];rfl) ?_;show bB af ng aae 27 _ _ _ _;refine aB (lR (by simp+decide only[gG,fR,gH,cn,AB];rfl) (iZ ⟨aw,_,Q,P,?_,f3,g3,?_⟩));.simp+decide only[gG,fR,gH,cn,AB,qc];exact F
  rcases A with rfl|⟨f,Z,rfl⟩
  .exact .inl Q
  exact .inr ⟨f,Z,Q⟩
 .refine fZ ?_;show bB af ng aae 27 _ _ _ _;refine aB (lR (by simp+decide only[gG,fR,gH,cn,AB,y];rfl) (iZ ⟨aw,_,Q,X,?_,Fr.refl _ _,g,.inl Q⟩));simp+decide only[gG,fR,gH,cn,AB,qc];exact⟨Q,.inl ⟨Q,Q,Q⟩⟩
def MX.keep{H:aj}(h:MX H.ah.get s l)(k:Fr Option.none H H'):MX H'.ah.get s l:=by obtain⟨cs,h1,h2⟩:=h;exact⟨cs,h1.keep k,λ i z c u y=>⟨(h2 i z c u y).1.keep k,(h2 i z c u y).2⟩⟩
def asP{l:aF}{H:aj}:eL af aae 212 l H=aae 212 l H:=rfl
def ai2(aae:bg):Prop:=∀(H:aj) (n:R),Good H->n<=2000->∃r,aae 212 [.aq,aW n] H=O r/\∃fm,cm r.2 4 0 r.1 [] fm/\Fr X H r.2/\Good r.2/\Ai H fm
theorem Ui(h:i<l.length):(l.take (i+1)).flatten=(l.take i).flatten++l[i]:=by grind[List.take_add_one]
theorem aon{l:B Ah}{i:R}:(l.take i).flatten.length<=l.flatten.length:=by grind[List.take_append_drop]
def ajb(h:i+j<=1000000):cY P .add t (aW i) (aW j)=O (aW (i+j)):=by rw[Ir (by unfold sP;simp;omega)];rfl
theorem CL(h:p:=by grind[of_decide_eq_false]):p:=h
theorem aFx(N:ai2 aae){H:aj}(g:Good H)(hs:MX H.ah.get s l)(hl:l.length<=2000)(hb:l.flatten.length<=2000):
 ∃r,fp af ng aae 149 [s] H r/\∃fm,cm r.2 4 l.flatten.length r.1 (fl l.flatten) fm/\Fr X H r.2/\Good r.2/\Ai H fm:=by
 refine lp Tryz.func149 Q ?_;show bB af ng aae 36 _ _ _ _;have P:ai (eH [s] 0 .nil) 0=s:=rfl;obtain⟨cs,h1,h2⟩:=id hs;have aq:cs.length=l.length:=by have:=h1.1;omega
 refine aB (lR (by simp+decide only[gG,fR,gH,cn,AB];rfl) ?_);refine aB (lR (by simp+decide only[gG,fR,gH,cn,AB];rfl) ?_);refine aB (aB (lR (by simp+decide only[gG,fR,gH,cn,AB,P,h1.dh adM];rfl) ?_));refine gR (pq (λ j T K=>K=H/\∃i,j+i=l.length/\ai T 0=s/\ai T 9=s/\ai T 10=ao (gu l.length)/\ai T 11=aW i/\ai T 3=ao (gu (l.take i).flatten.length)) ?_ l.length _ _ ?_)
 .rintro j T K ⟨rfl,i,hi,t0,t9,Z,F,t3⟩
  refine aB (lR (by simp+decide only[gG,fR,gH,cn,AB,Z,F];rfl) ?_);refine aB (eX (v:=decide (gu i<gu l.length)) (by simp+decide only[gG,fR,gH,cn,AB]) (λ y=>?_) (λ A=>?_))
  .have y:i<l.length:=bP;obtain⟨v1,o1,J,_,u⟩:=h1.index y adM ae2 Q;have u:=u 0 cs[i] aa aw;rw[sK]at u;obtain⟨ea,eb,ec⟩:=h2 i l[i] cs[i] aw aw;have ab:(l.take i).flatten.length+l[i].length<=2000:=by have:=@aon l (i+1);grind[Ui,abY]
   refine fZ (aB (gR (aB (lR (by simp+decide only[gG,fR,gH,cn,AB,t9,F,J,ajL u];rfl) ?_))));refine aB (lR (by simp+decide only[gG,fR,gH,cn,AB,t3,ea.dh ajs,ajb (show(l.take i).flatten.length+l[i].length<=1000000 by omega)];rfl) ?_);refine aB (lR (by simp+decide only[gG,fR,gH,cn,AB];rfl) ?_);refine eX (v:=decide (gu ((l.take i).flatten.length+l[i].length)<0)) (by simp+decide only[gG,fR,gH,cn,AB]) (λ ap=>?_) (λ _=>?_);.grind[Int.ofNat_eq_natCast]
   refine fZ (lR (by simp+decide only[gG,fR,gH,cn,AB,F,uZ (show i<=1000000 by omega)];rfl) ?_);refine⟨j- 1,aa,Q,i+1,aa,by simp+decide only[gG,fR,gH,cn,AB,t0],by simp+decide only[gG,fR,gH,cn,AB,t9],by simp+decide only[gG,fR,gH,cn,AB,Z],by simp+decide only[gG,fR,gH,cn,AB],?_⟩;simp+decide only[gG,fR,gH,cn,AB];rw[Ui y,kQ]
  have A:i=l.length:=CL;rw[A,mT (aZ _)]at t3;refine mY ?_;show bB af ng aae 36 _ _ _ _;obtain⟨⟨v6,K6⟩,al,am,ag,f6,g6,ac⟩:=N K l.flatten.length g hb;refine aB (lR (by simp+decide only[gG,fR,gH,cn,AB,t3,ud,mG,ou,asP,al];rfl) ?_);refine aB (aB (lR (by simp+decide only[gG,fR,gH,cn,AB,t0,(h1.keep f6).dh adM];rfl) ?_));refine gR (pq (λ j T K'=>∃i fm,j+i=l.length/\ai T 25=s/\ai T 26=ao (gu l.length)/\ai T 27=aW i/\cm K' 4 (l.take i).flatten.length (ai T 6) (fl (l.take i).flatten) fm/\Fr X K K'/\Good K'/\Ai K fm) ?_ l.length _ _ ?_)
  .rintro j T K' ⟨i,fm,hi,Y,S,D,os,fK,gK,M⟩
   refine aB (lR (by simp+decide only[gG,fR,gH,cn,AB,S,D];rfl) ?_);refine aB (eX (v:=decide (gu i<gu l.length)) (by simp+decide only[gG,fR,gH,cn,AB]) (λ y=>?_) (λ A=>?_))
   .have y:i<l.length:=bP;obtain⟨v1,o1,J,_,u⟩:=(h1.keep fK).index y adM ae2 Q;have u:=u 0 cs[i] aa aw;rw[sK]at u;obtain⟨ea,eb,ec⟩:=h2 i l[i] cs[i] aw aw;have ea:=ea.keep fK;have ab:(l.take i).flatten.length+l[i].length<=2000:=by have:=@aon l (i+1);grind[Ui,abY]
    obtain⟨s',H',an,ha,ho,hf,g',ad⟩:=yp (k:=l[i].length) (bytes:=32) (new:=fl l[i]) gK aa os (RR ec) (Zb ec) mE mE;refine fZ (aB (gR (aB (lR (by simp+decide only[gG,fR,gH,cn,AB,Y,D,J,ajL u];rfl) ?_))));refine lR (by simp+decide only[gG,fR,gH,cn,AB,azl ea,ha];rfl) ?_;refine lR (by simp+decide only[gG,fR,gH,cn,AB,D,uZ (show i<=1000000 by omega)];rfl) ?_;refine⟨j- 1,aa,i+1,an,aa,by simp+decide only[gG,fR,gH,cn,AB,Y],by simp+decide only[gG,fR,gH,cn,AB,S],by simp+decide only[gG,fR,gH,cn,AB],?_,Fr.into g fK hf M,g',M.into fK.ae ad⟩;simp+decide only[gG,fR,gH,cn,AB];grind[Ui,abY,avf]
   have A:i=l.length:=CL;rw[A,mT (aZ _)]at os;refine mY ?_;show bB af ng aae 36 _ _ _ _;refine aB (lR (by simp+decide only[gG,fR,gH,cn,AB];rfl) (iZ ⟨aw,_,Q,fm,?_,fK,gK,M⟩));simp+decide only[gG,fR,gH,cn,AB,qc];exact os
  refine⟨0,am,aa,by simp+decide only[gG,fR,gH,cn,AB,t0],by simp+decide only[gG,fR,gH,cn,AB],by simp+decide only[gG,fR,gH,cn,AB];rfl,?_,f6,g6,ac⟩;simp+decide only[gG,fR,gH,cn,AB];exact ag
 .exact⟨Q,0,aa,by simp+decide only[gG,fR,gH,cn,AB,P],by simp+decide only[gG,fR,gH,cn,AB,P],by simp+decide only[gG,fR,gH,cn,AB],by simp+decide only[gG,fR,gH,cn,AB];rfl,by simp+decide only[gG,fR,gH,cn,AB];rfl⟩
end
end
end Go.Abs
