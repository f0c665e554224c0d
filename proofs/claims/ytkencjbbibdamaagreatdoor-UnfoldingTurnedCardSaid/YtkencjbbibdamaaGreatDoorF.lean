/- Rules for walks; the symbolic machine. -/
import Derived.Test.YtkencjbbibdamaaGreatDoorD
import Derived.Test.YtkencjbbibdamaaGreatDoorE
set_option linter.all false
namespace Go.Abs
noncomputable section
open Go
variable{α β σ:Type}{B:Nat->α->Prop}{Z:cR}{a b i j m n nm sz y:Nat}{al an:Bool}{bef:List (List Nat)}{d:Int}{es:List (Nat×fq)}{k:IntKind}{l:List CE}{o:Option Nat}{op:BinOp}{pd:List Nat}{r:Option VR}{rs:List (Nat×Option (Nat×Nat)×Nat)}{t:TypeId}{v:ae}
section
open Go.Proofs
variable{B C:CC}{TT:Nat->σ->VT}{a:ae}{b:List Nat}{cs:List ae}{d:fq}{e:pj}{k:Nat}{src:List Tmp}
variable{P:Program}{gl:aM}{Z7:cI}{n:Nat}{T:VT}{st:aq}
abbrev aD(l:List Int):ae:=.sl (l.map λ n=>[eI n]) none
abbrev eW(a:BitVec 64):ae:=.sc (.int .u64 (a.toNat:Int))
structure El where
 ed:Bool
 ty:Int
 fr:Int
 to:Int
 ev:Int
def El.c(x:El):List ae:=[eB x.ed,eI x.ty,eI x.fr,eI x.to,eI x.ev]
structure Oc where
 ru:Int
 no:List Int
 ed:List Int
def Oc.c(x:Oc):List ae:=[eI x.ru,aD x.no,aD x.ed]
structure Ed where
 ty:Int
 fr:Int
 to:Int
def Ed.c(x:Ed):List ae:=[eI x.ty,eI x.fr,eI x.to]
structure RU where
 nm:ae
 lN:List Int
 lE:List Ed
 x3:ae
 x4:ae
 x5:ae
 rN:List Int
 rE:List Ed
 x8:ae
 x9:ae
 Ck:ae
 kN:List Int
 kE:List Int
 iN:List Int
 iE:List Int
 ax7:ae
 axw:ae
 auu:ae
 x18:ae
 x19:ae
 x20:ae
 x21:ae
 x22:ae
 atc:ae
 x24:ae
abbrev dY(l:List Ed):ae:=.sl (l.map Ed.c) none
def RU.c(r:RU):List ae:=[r.nm,aD r.lN,dY r.lE,r.x3,r.x4,r.x5,aD r.rN,dY r.rE,r.x8,r.x9,r.Ck,aD r.kN,aD r.kE,aD r.iN,aD r.iE,r.ax7,r.axw,r.auu,r.x18,r.x19,r.x20,r.x21,r.x22,r.atc,r.x24]
structure aT where
 R:List RU
 E:List El
 V:List Oc
 C:List (BitVec 64)
def aT.c(N:aT)(a b c:Option Nat):List ae:=[.sl (N.R.map RU.c) none,.sl (N.E.map El.c) a,.sl (N.V.map Oc.c) b,.sl (N.C.map λ x=>[eW x]) c]
def sJ{σ:Type}(f:Nat->σ->Option (σ⊕bZ)):Nat->Nat->σ->Option (σ⊕bZ)
 |0,_,s=>some (.inl s)
 |k+1,i,s=>match f i s with
  |some (.inl s')=>sJ f k (i+1) s'
  |some (.inr r)=>some (.inr r)
  |none=>none
theorem tP{len:Nat}{ST:σ->aq}{X:σ->bZ}{f:Nat->σ->Option (σ⊕bZ)}
 (G:∀i s,aJ P gl Z7 n C (TT i s) (ST s)=mY (aJ P gl Z7 n C) (aJ P gl Z7 n B (TT i s) (ST s)))
 (q:∀i s,i<len->match f i s with
  |some (.inl s')=>aJ P gl Z7 n B (TT i s) (ST s)=some (.normal,TT (i+1) s',ST s')
  |some (.inr r)=>aJ P gl Z7 n B (TT i s) (ST s)=some r/\r.1≠.normal
  |none=>True)
 (K:∀s,aJ P gl Z7 n B (TT len s) (ST s)=some (X s)/\(X s).1≠.normal):
 ∀k i s r,i+k=len->sJ f k i s=some r->aJ P gl Z7 n C (TT i s) (ST s)=some (match r with|.inl s'=>X s'|.inr r=>r):=by
 have J:∀{r:bZ},r.1≠.normal->mY (aJ P gl Z7 n C) (some r)=some r:=by
  intro r D;obtain⟨e,T,st⟩:=r;cases e with
  |normal=>exact(D rfl).elim
  |exit id=>rfl
  |ret=>rfl
 intro k;induction k with
 |zero=>
  intro i s r hi h;cases h;grind
 |succ k A=>
  intro i s r hi h;have q:=q i s (by omega);simp only[sJ]at h;rw[G];split at h;.rename_i s' F;rw[F]at q;rw[q];exact A (i+1) s' r (by omega) h
  .grind
  cases h
def bP{α σ:Type}(f:α->σ->Option (σ⊕bZ)):List α->σ->Option (σ⊕bZ)
 |[],s=>some (.inl s)
 |x::l,s=>match f x s with
  |some (.inl s')=>bP f l s'
  |some (.inr r)=>some (.inr r)
  |none=>none
theorem ayl{f:α->σ->Option (σ⊕bZ)}{g:Nat->σ->Option (σ⊕bZ)}{l:List α}(q:∀i s x,l[i]? =some x->g i s=f x s):∀k i s,i+k=l.length->sJ g k i s=bP f (l.drop i) s:=by
 intro k;induction k with
 |zero=>
  intro i s hi;rw[Nw (by omega)];rfl
 |succ k h=>grind[List.drop_eq_getElem_cons,sJ,bP]
theorem pg{l:List α}{ST:σ->aq}{X:σ->bZ}{f:α->σ->Option (σ⊕bZ)}
 (A:∀i s,aJ P gl Z7 n C (TT i s) (ST s)=mY (aJ P gl Z7 n C) (aJ P gl Z7 n B (TT i s) (ST s)))
 (D:∀i s x,i<l.length->l[i]? =some x->match f x s with
  |some (.inl s')=>aJ P gl Z7 n B (TT i s) (ST s)=some (.normal,TT (i+1) s',ST s')
  |some (.inr r)=>aJ P gl Z7 n B (TT i s) (ST s)=some r/\r.1≠.normal
  |none=>True)
 (q:∀s,aJ P gl Z7 n B (TT l.length s) (ST s)=some (X s)/\(X s).1≠.normal):
 ∀s r,bP f l s=some r->aJ P gl Z7 n C (TT 0 s) (ST s)=some (match r with|.inl s'=>X s'|.inr r=>r):=by
 intro s r h;refine tP (f:=λ i s=>match l[i]?with|some x=>f x s|none=>none) A ?_ q l.length 0 s r (by omega) ?_;.grind
 .rw[ayl (l:=l) (f:=f) (λ i s x e=>by simp only[e]) l.length 0 s (by omega)];exact h
def Rp(P:Program)(gl:aM)(Z7:cI)(n:Nat)(bef:List (List Nat))(l:List CE)(i:Nat)(T:VT)(d:Option Tmp)(r:VR):Option cR->Option (cR×VT×aq)
 |some Z=>jP P gl Z7 n bef l (i+1) Z (da n (gZ r.src T) d r.v) r.st
 |none=>none
def akH{d:Option Tmp}:Rp P gl Z7 n bef l i T d ⟨v,src,st,e⟩ (some Z)=jP P gl Z7 n bef l (i+1) Z (da n (gZ src T) d v) st:=rfl
def yD(P:Program)(gl:aM)(Z7:cI)(n:Nat)(bef:List (List Nat))(l:List CE)(i:Nat)(Z:cR)(T:VT)(d:Option Tmp):Option VR->Option (cR×VT×aq)
 |some r=>Rp P gl Z7 n bef l i T d r (kT (bef.getD i []) i Z r.e)
 |none=>none
def amX{d:Option Tmp}:yD P gl Z7 n bef l i Z T d (some ⟨v,src,st,e⟩)=Rp P gl Z7 n bef l i T d ⟨v,src,st,e⟩ (kT (bef.getD i []) i Z e):=rfl
def arf:jP P gl Z7 n bef [] i Z T st=some (Z,T,st):=rfl
def aiV{d:Nat}{c:CO}:jP P gl Z7 n bef (O d c::l) i Z T st=yD P gl Z7 n bef l i Z T (some d) (aN P gl Z7 T st (some d) c):=by
 simp only[jP,oT];cases aN P gl Z7 T st (some d) c;.rfl
 rename_i r;simp only[yD];cases kT (bef.getD i []) i Z r.e<;>rfl
def avi{c:CO}:jP P gl Z7 n bef (E c::l) i Z T st=yD P gl Z7 n bef l i Z T none (aN P gl Z7 T st none c):=by
 simp only[jP,oT];cases aN P gl Z7 T st none c;.rfl
 rename_i r;simp only[yD];cases kT (bef.getD i []) i Z r.e<;>rfl
def avJ:kT b i Z .pure=some Z:=rfl
def ayo:kT b i ⟨[],es,al,an,rs⟩ (.read none)=some ⟨[],es,al,an,rs⟩:=rfl
def awJ:kT b i ⟨j::pd,es,false,an,rs⟩ (.read none)=some ⟨j::pd,es,false,an,(i,none,es.length)::rs⟩:=rfl
def atp{x:Nat×Nat}:kT b i ⟨pd,es,al,false,rs⟩ (.read (some x))=some ⟨pd,es,al,false,(i,some x,es.length)::rs⟩:=rfl
def azq{x:Bool}:kT b i ⟨pd,es,al,an,rs⟩ (.new x)=some ⟨i::pd,es,true,an||x,rs⟩:=rfl
def nE(i:Nat)(d:fq)(Z:cR):Bool->Option cR
 |true=>some {Z with cA:=i::Z.cA,es:=(i,d)::Z.es,al:=false}
 |false=>none
def arl:kT b i Z (.eP d)=nE i d Z (Bp b Z.cA):=by simp only[kT];cases Bp b Z.cA<;>rfl
def aAk:nE i d ⟨pd,es,al,an,rs⟩ true=some ⟨i::pd,(i,d)::es,false,an,rs⟩:=rfl
def LD(T:VT)(st:aq):Bool->Option (VT×aq)
 |true=>some (T,st)
 |false=>none
def alU:LD T st true=some (T,st):=rfl
def A9(bef:List (List Nat)):Option (cR×VT×aq)->Option (VT×aq)
 |some (Z,T,st)=>LD T st (vu bef Z.es Z.rs)
 |none=>none
def apC:A9 bef (some (⟨pd,es,al,an,rs⟩,T,st))=LD T st (vu bef es rs):=rfl
def afV(P:Program)(gl:aM)(Z7:cI)(n:Nat)(l:List CE)(bef:List (List Nat))(T:VT)(st:aq):Option (VT×aq):=tQ bef (mF P gl Z7 n bef st l 0 ⟨[],[],false,false,[]⟩ T T st)
theorem YM{x:Option (cR×VT×aq)}:tQ bef x=A9 bef x:=by unfold tQ A9;grind[LD]
def ajS:uf P gl Z7 n l bef T st=Lj (A9 bef (jP P gl Z7 n bef l 0 ⟨[],[],false,false,[]⟩ T st)) (afV P gl Z7 n l bef T st):=by unfold uf afV;rw[YM]
def avM{x:VT×aq}{y:Option (VT×aq)}:Lj (some x) y=some x:=rfl
def atv:vu bef es []=true:=rfl
def apZ{r:Nat×Option (Nat×Nat)×Nat}:vu bef es (r::rs)=(lH bef r.1 (yy r.2.1 r.2.2 es) es none&&vu bef es rs):=rfl
def axT(h:Bp b pd=true):kT b i ⟨pd,es,al,an,rs⟩ (.eP d)=some ⟨i::pd,(i,d)::es,false,an,rs⟩:=by rw[arl,h,aAk]
def ank:fq->Bool
 |.clean=>true
 |_=>false
def R5{ok:Nat->Bool}(h:∀k,ok k=true):∀{es:List (Nat×fq)} {up:Option Nat},lH bef j ok es up=true
 |[],up=>by simp only[lH,h,rM]
 |e::es,up=>by simp only[lH,h,rM,BF,R5 h]
def Hb:List (Nat×fq)->Bool
 |[]=>true
 |e::es=>ank e.2&&Hb es
def TC{b:Nat×Nat}:∀{es:List (Nat×fq)},Hb es=true->iH b m k es=true
 |[],_=>rfl
 |(i,d)::es,h=>by
  simp only[Hb,aR]at h;cases d with
  |clean=>simp only[iH,tH,rM,BF,TC h.2]
  |box _ _=>cases h.1
  |all=>cases h.1
def azK{b:Nat×Nat}(h:Hb es=true):lH bef j (yy (some b) m es) es none=true:=R5 λ _=>TC h
def au2:mZ false=.clean:=rfl
def dQ(P:Program)(gl:aM)(Z7:cI)(n:Nat)(bef:List (List Nat))(l:List CE)(i:Nat)(Z:cR)(T:VT)(st:aq)(d:Tmp)(b:Bool)(r:Option VR):ae->Option (cR×VT×aq)
 |.sc (.bool h)=>if h=b then yD P gl Z7 n bef l i Z T (some d) r else jP P gl Z7 n bef l (i+1) Z (da n T (some d) .un) st
 |.un=>jP P gl Z7 n bef l (i+1) Z (da n T (some d) .un) st
 |_=>none
def ajY{d:Tmp}{b h:Bool}:dQ P gl Z7 n bef l i Z T st d b r (eB h)=if h=b then yD P gl Z7 n bef l i Z T (some d) r else jP P gl Z7 n bef l (i+1) Z (da n T (some d) .un) st:=rfl
def an3{d:Tmp}{b:Bool}:dQ P gl Z7 n bef l i Z T st d b r .un=jP P gl Z7 n bef l (i+1) Z (da n T (some d) .un) st:=rfl
def akq{d t:Nat}{b:Bool}{c:CO}:jP P gl Z7 n bef (Q d t b c::l) i Z T st=dQ P gl Z7 n bef l i Z T st d b (aN P gl Z7 T st (some d) c) (jK T t):=by
 simp only[jP,oT];cases jK T t with
 |sc a=>
  cases a with
  |bool h=>
   simp only[dQ];cases h<;>cases b<;>simp<;>first|rfl|(cases aN P gl Z7 T st (some d) c with|none=>rfl|some r=>simp only[yD];cases kT (bef.getD i []) i Z r.e<;>rfl)
  |_=>rfl
 |_=>rfl
def aqJ{d:Nat}{b:Bool}:cQ n T st d b r .un=some (da n T (some d) .un,st):=rfl
def xP(b:Nat×Nat):List (Nat×fq)->Bool
 |[]=>true
 |e::es=>tH b e.2&&xP b es
def avq{b:Nat×Nat}:xP b []=true:=rfl
def aoY{b:Nat×Nat}:xP b ((i,d)::es)=(tH b d&&xP b es):=rfl
def ans{b:Nat×Nat}:tH b .clean=true:=rfl
def ax5{d q h:Nat}:tH (d,k) (.box q h)= !(h==k&&q==d):=rfl
def Ov{b:Nat×Nat}:∀{es:List (Nat×fq)},xP b es=true->iH b m k es=true
 |[],_=>rfl
 |(i,d)::es,h=>by simp only[xP,aR]at h;simp only[iH,h.1,rM,BF,Ov h.2]
def aoA{b:Nat×Nat}(h:xP b es=true):lH bef j (yy (some b) m es) es none=true:=R5 λ _=>Ov h
def az7{b c:ae}:jt true 3 [a,b,c] 0=some (.agg [a,b,c]):=rfl
def ap7{b c d e:ae}:jt true 5 [a,b,c,d,e] 0=some (.agg [a,b,c,d,e]):=rfl
def asR{b c x y z:ae}:cm [a,b,c] 0 [x,y,z]=[x,y,z]:=rfl
def azg{x:ae}:cm [a] 0 [x]=[x]:=rfl
def vO:List (Nat×fq)->List Nat
 |[]=>[]
 |e::es=>e.1::vO es
def arq:vO []=[]:=rfl
def av2:vO ((i,d)::es)=i::vO es:=rfl
def adf:∀{es:List (Nat×fq)},(vO es).length=es.length
 |[]=>rfl
 |_::es=>dc Nat.succ (adf (es:=es))
def Fw(bef:List (List Nat))(j m:Nat):List Nat->Option Nat->Bool
 |[],up=>(match up with|some e=>(bef.getD j []).elem e|none=>false)||Nat.beq 0 m
 |e::es,up=>((match up with|some e'=>(bef.getD j []).elem e'|none=>false)||(bef.getD e []).elem j||Nat.beq (es.length+1) m)&&Fw bef j m es (some e)
theorem afG{ok:Nat->Bool}(q:ok m=true):∀{es:List (Nat×fq)} {up:Option Nat},Fw bef j m (vO es) up=true->lH bef j ok es up=true
 |[],up,h=>by simp only[vO,Fw,lH,nZ]at h⊢;grind[Nat.eq_of_beq_eq_true]
 |e::es,up,h=>by simp only[vO,Fw,lH,nZ,aR,adf]at h⊢;refine⟨?_,afG q h.2⟩;grind[Nat.eq_of_beq_eq_true]
def aor{b:Option (Nat×Nat)}(h:Fw bef j m (vO es) none=true):lH bef j (yy b m es) es none=true:=by
 refine afG ?_ h;cases b;.exact Vw m
 rename_i b;exact acn
theorem EU{es:aS}{kd:IntKind}(h:i<=es.length)(q:fR sz es=true):nf (some sz) false (.sl es o) none (some (.sc (.int kd (i:Int))))=some (.sl (es.take i) none):=by show(if 0<=i/\i<=es.length/\fR sz es=true then some (ae.sl ((es.drop 0).take (i- 0)) none)else none)=_;grind
def agH{l:List Int}:fR 1 (l.map λ n=>[eI n])=true:=by
 induction l with
 |nil=>rfl
 |cons a l h=>exact h
theorem azP{b c:ae}{l:List ae}:jt true 2 (a::b::c::l) 1=some (.agg [b,c]):=by grind[jt,qO]
theorem RJ{n:Nat}(h:(cs.length==n)=true):jt true n cs 0=some (.agg cs):=by grind[jt,qO]
theorem ajD{v:List ae}(h:(cs.length==v.length)=true):cm cs 0 v=v:=by grind[cm]
theorem lZ{es new:aS}(q:es.length+new.length<=1073741824)(h:fR sz new=true):iG st sz (.sl es (some sz)) (.sl new o)=some (.sl (es++new) (some sz)):=by show(if(sz=sz\/_)/\es.length+new.length<=1073741824/\fR sz new=true then _ else _)=_;grind
theorem fD{z:List ae}(q:v.cells.all ae.data=true)(h:(v.cells.length==sz)=true):mM sz (List.replicate 1 z) [(0,v)]=some [v.cells.map di]:=by grind[mM]
theorem asL{z:List ae}{w:ae}(A:v.cells.all ae.data=true)(q:(v.cells.length==sz)=true)(h3:w.cells.all ae.data=true)(h:(w.cells.length==sz)=true):mM sz (List.replicate 2 z) [(0,v),(1,w)]=some [v.cells.map di,w.cells.map di]:=by grind[mM]
def VB0:=(au @aDO (au @aDy (au @wg (au @Yw (au @Lf (au @UO (au @VM (au @adV (au @La (au @ZB (au @BX (au @al7 (au @aAG (au @ayR (au @ann (au @aaU (au @awc (au @aqD (au @aA8 (au @aq0 (au @ara (au @arA (au @aoT (au @azQ (au @RS (au @ax9 (au @anU (au @av1 (au @alH (au @as2 (au @asK (au @aqT (au @aon (au @apB (au @ars (au @alC (au @ajQ (au @aAj (au @ajB (au @arO (au @avF (au @ajj (au @axs (au @ayg (au @aom (au @apq (au @amD (au @awK (au @ak7 (au @ayf (au @amP (au @apv (au @apV (au @apa (au @au5 (au @aqM (au @aks (au @amx (au @axm (au @an0 (au @amO (au @aiT (au @aww (au @axP (au @arT (au @aji (au @anW (au @aA6 (au @amg (au @aA4 (au @ajA (au @aqh (au @aeV (au @adu (au @asS (au @aul (au @avI (au @azi (au @aw0 (au @aqx (au @aAQ (au @atn (au @amt (au @asu (au @arb (au @aq3 (au @am6 (au @al5 (au @aoo (au @awF (au @axM (au @asd (au @XE (au @afy (au @adB (au @XW (au @Xt (au @TU (au @as5 (au @amV (au @anb (au @avj (au @alI (au @aoJ (au @akf (au @atL (au @alT (au @aj8 (au @axA (au @anQ (au @ajk (au @asz (au @awt (au @awk (au @anV (au @aol (au @ayn (au @aqI (au @alj (au @ajV (au @JS (au @art (au @avu (au @aAJ (au @awY (au @atM (au @alB (au @atk (au @atg (au @auw (au @an9 (au @aku (au @akN (au @aj5 (au @ZU (au @awm (au @asv (au @alJ (au @ajn (au @ako (au @anO (au @aro (au @az9 (au @arv (au @avd (au @aop (au @akb (au @ajv (au @ax4 (au @aAT (au @aAP (au @awg (au @ao4 (au @arU (au @azS (au @awD (au @ao6 (au @ap2 (au @avf (au @amb (au @alc (au @azh (au @ajb (au @av7 (au @aAL (au @az6 (au @akL (au @avD (au @aoB (au @at2 (au @aqq (au @alf (au @asW (au @auM (au @awT (au @awv (au @au4 (au @ayv (au @an7 (au @aoM (au @auR (au @akV (au @aqA (au @al0 (au @anc (au @axO (au @axH (au @aj1 (au @aq8 (au @atD (au @aoq (au @auA (au @alM (au @azE (au @akd (au @aqu (au @asy (au @akU (au @ajS (au @avM (au @arf (au @aiV (au @avi (au @amX (au @akH (au @avJ (au @ayo (au @awJ (au @atp (au @azq (au @apC (au @alU (au @atv (au @apZ (au @axT (au @azK (au @au2 (au @akq (au @ajY (au @an3 (au @aqJ (au @avq (au @aoY (au @ans (au @ax5 (au @aoA (au @az7 (au @ap7 (au @asR (au @azg (au @aor (au @arq (au @av2 (au @azP (au @RJ @ajD)))))))))))))))))))))))))))))))))))))))))))))))))))))))))))))))))))))))))))))))))))))))))))))))))))))))))))))))))))))))))))))))))))))))))))))))))))))))))))))))))))))))))))))))))))))))))))))))))))))))))))))))))))))))))))))))))))))))))))
def VB:=au @fL.{0,0} (au @Ny.{0,0} (au @aiB.{0} (au @aiC.{0} (au @cD.{0} (au @dG.{0} (au @Nx.{1} (au @Nt.{1} (au @ug.{0} (au @Vr.{0} (au @xA.{0} (au @List.any_nil.{0} (au @Vs (au @BF (au @aiD (au @aiA (au @En (au @Bool.false_or (au @Em (au @rM (au @Vx (au @Bool.not_false (au @Vw.{0} (au @nY (au @iX (au @Ns (au @aiu (au @zC.{0} (au @jS.{0} (au @oq.{0} (au @akJ (VB0)))))))))))))))))))))))))))))))
theorem uM(a:BitVec 64):BitVec.ofInt 64 (a.toNat:Int)=a:=by grind
def Nj(a:BitVec 64):IntKind.wrap .u64 (a.toNat:Int)=(a.toNat:Int):=by have e:IntKind.wrap .u64 (a.toNat:Int)=(a.toNat:Int)%18446744073709551616:=rfl;rw[e];exact Int.emod_eq_of_lt (by omega) (by have:=a.isLt;omega)
def afK{a b:BitVec 64}:dn P .or t (eW a) (eW b)=some (eW (a|||b)):=by show some (ae.sc (.int .u64 (IntKind.wrap .u64 (BitVec.ofInt 64 (a.toNat:Int)|||BitVec.ofInt 64 (b.toNat:Int)).toNat)))=_;rw[uM,uM,Nj]
def af9{a b:BitVec 64}:dn P .and t (eW a) (eW b)=some (eW (a&&&b)):=by show some (ae.sc (.int .u64 (IntKind.wrap .u64 (BitVec.ofInt 64 (a.toNat:Int)&&&BitVec.ofInt 64 (b.toNat:Int)).toNat)))=_;rw[uM,uM,Nj]
def UP{a b:BitVec 64}:dn P .andNot t (eW a) (eW b)=some (eW (a&&& ~~~b)):=by show some (ae.sc (.int .u64 (IntKind.wrap .u64 (BitVec.ofInt 64 (a.toNat:Int)&&& ~~~BitVec.ofInt 64 (b.toNat:Int)).toNat)))=_;rw[uM,uM,Nj]
theorem ak0{e:Nat}:dn P .shl t (.sc (.int .u64 1)) (eI (e:Int))=some (eW (1#64<<<e)):=by
 rw[nw];show(match qo (Op.shift .shl .u64 1 .i64 (e:Int))with|some r=>kx r|none=>none)=_;have:Op.shift .shl .u64 1 .i64 (e:Int)=pure (.int .u64 (IntKind.wrap .u64 (1*2^(min (e:Int).toNat IntKind.u64.bits)))):=by grind[Op.shift]
 rw[this];show some (ae.sc (.int .u64 _))=_
 congr 3
 have q:∀n:Int,IntKind.wrap .u64 n=n%18446744073709551616:=λ _=>rfl
 rw[q,aBa];show(1*2^(min (e:Int).toNat 64):Int)%18446744073709551616=((1<<<e%2^64:Nat):Int);rw[Nat.one_shiftLeft,Int.one_mul,Eo];by_cases h:e<64;.grind
 rw[Nat.min_eq_right (by omega)];obtain⟨k,rfl⟩:∃k,e=64+k:=⟨e- 64,by omega⟩;grind
theorem aAh{a:BitVec 64}:dn P .sub t (eW a) (.sc (.int .u64 1))=some (eW (a- 1#64)):=by
 show some (ae.sc (.int .u64 (IntKind.wrap .u64 ((a.toNat:Int)- 1))))=_;have h:∀n:Int,IntKind.wrap .u64 n=n%18446744073709551616:=λ _=>rfl
 grind
def ale{a:BitVec 64}:dn P .neq t (eW a) (.sc (.int .u64 0))=some (eB (!decide (a=0#64))):=by
 rw[TU];refine dc (λ b=>some (eB (!b))) (decide_eq_decide.2 ⟨λ e=>Ep ?_,λ e=>?_⟩);.show a.toNat=0;omega
 subst e;rfl
end
section
open Go.Proofs
variable{gl:aM}{Z7:cI}{n:Nat}{T:VT}{st:aq}
def df{α:Type}(l:List α)(k:Int):Option α:=if 0<=k then l[k.toNat]?else none
def jU{l:List α}{k:Int}{x:α}(h:df l k=some x):∃i:Nat,k=i/\l[i]? =some x:=by
 unfold df at h;split at h;.exact⟨k.toNat,by omega,h⟩
 cases h
def Ag(N:aT)(k:Int)(o:BitVec 64):Option (BitVec 64⊕bZ):=
 match df N.E k with
 |some x=>if 0<=x.ev then(match df N.C x.ev with|some c=>some (.inl (o|||(1#64<<<x.ev.toNat|||c)))|none=>none)else some (.inl o)
 |none=>none
def sq(N:aT)(l:List Int):Option (BitVec 64):=match bP (Ag N) l 0#64 with|some (.inl r)=>some r|_=>none
def azO{N:aT}{l:List Int}{S:List bI}{d k:Nat}{a b c:Option Nat}(L:b7 S d k=some (N.c a b c))(hl:l.length<=1000000){r:BitVec 64}(h:sq N l=some r):
 bz af gl Z7 Q4 [.ptr d k 0,aD l] S=some (eW r,S,false):=by
 have hd:(d=S.length)=False:=b6 (by have:=cY L;omega);unfold sq at h;split at h
 .rename_i r' hr;cases h
  have hL:=pg (P:=af) (gl:=gl) (Z7:=Z7) (n:=40) (l:=l) (C:=Li) (B:=DK) (f:=Ag N)
   (TT:=λ i o=>[(0,.ptr d k 0),(5,eW o),(9,aD l),(10,eI l.length),(11,eI i)]) (ST:=λ _=>(aH [] S))
   (X:=λ o=>(.exit 0,[(0,.ptr d k 0),(5,eW o),(9,aD l),(10,eI l.length),(11,eI l.length),(12,eB false)],(aH [] S))) ?_ ?_ ?_ 0#64 _ hr
  .have M:aJ af gl Z7 40 Li [(0,.ptr d k 0),(5,.sc (.int .u64 0)),(9,aD l),(10,eI l.length),(11,eI 0)] (aH [] S)=_:=hL;simp+decide only[bz,Q4,VB,lk,aB,↓reduceIte,Nat.reduceBEq,Nat.reduceAdd,ahm,ZQ,ag5,ags,aF,M]
  .intro i s;rw[axi];simp+decide only[VB,lk,aB,↓reduceIte,Nat.reduceBEq,Nat.reduceAdd]
  .intro i s x hi hx;have A:((i:Int)<(l.length:Int))=True:=dw (by omega);have he:(l.map λ n=>[eI n])[i]? =some [eI x]:=by rw[bM,hx];rfl
   unfold Ag;cases h1:df N.E x;.trivial
   rename_i y;obtain⟨j,rfl,hj⟩:=jU h1;have F:(N.E.map El.c)[j]? =some y.c:=by rw[bM,hj];rfl
   simp only[];by_cases G:0<=y.ev
   .rw[ao G];cases h2:df N.C y.ev;.trivial
    rename_i z;obtain⟨Y,e2,J⟩:=jU h2;have D:(N.C.map λ x=>[eW x])[Y]? =some [eW z]:=by rw[bM,J];rfl
    simp only[e2,Eo];have K:((Y:Int)>=0)=True:=dw (by omega);simp+decide only[DK,VB,lk,aB,↓reduceIte,Nat.reduceBEq,Nat.reduceAdd,I3,TJ,RO,Ux,QS,QF,A,aY he,L,hd,aT.c,aY F,El.c,e2,aY D,ak0,afK,K,gW (show i<=4611686018427387904 by omega)]
   rw[aj G];have q:(y.ev>=0)=False:=b6 G;simp+decide only[DK,VB,lk,aB,↓reduceIte,Nat.reduceBEq,Nat.reduceAdd,I3,TJ,RO,Ux,QS,QF,A,aY he,L,hd,aT.c,aY F,El.c,q,gW (show i<=4611686018427387904 by omega)]
  intro s;refine⟨?_,λ h=>by cases h⟩;simp+decide only[DK,VB,lk,aB,↓reduceIte,Nat.reduceBEq,Nat.reduceAdd,I3,jT]
 .cases h
end
section
open Go.Proofs
variable{p:α->Option Bool}
variable{gl:aM}{Z7:cI}{n:Nat}{T:VT}{st:aq}
def lg{α:Type}(p:α->Option Bool):Nat->List α->Option Int
 |_,[]=>some (-1)
 |i,x::l=>match p x with|some true=>some (i:Int)|some false=>lg p (i+1) l|none=>none
def jy{α:Type}(p:α->Option Bool):List α->Option Bool
 |[]=>some false
 |x::l=>match p x with|some true=>some true|some false=>jy p l|none=>none
def vT:∀{l:List α} {i:Nat} {b:Bool},jy p l=some b->∃z,lg p i l=some z/\decide (z>=0)=b
 |[],i,b,h=>by cases h;exact⟨-1,rfl,rfl⟩
 |x::l,i,b,h=>by
  simp only[jy]at h;simp only[lg];split at h;.cases h;exact⟨i,rfl,dV (by omega)⟩
  .exact vT h
  cases h
def lL{α:Type}(p:α->Option Bool)(R:Nat->bZ)(l:List α)(i:Nat)(_:Unit):Option (Unit⊕bZ):=
 match l[i]?with
 |some x=>(match p x with|some true=>some (.inr (R i))|some false=>some (.inl ())|none=>none)
 |none=>none
def xe{R:Nat->bZ}{l:List α}:
 ∀k i z,i+k=l.length->lg p i (l.drop i)=some z->(z= -1/\sJ (lL p R l) k i ()=some (.inl ()))\/∃j:Nat,z=j/\sJ (lL p R l) k i ()=some (.inr (R j)):=by
 intro k;induction k with
 |zero=>
  intro i z hi h;rw[Nw (by omega)]at h;cases h;exact .inl ⟨rfl,rfl⟩
 |succ k D=>
  intro i z hi h;have A:i<l.length:=by omega
  rw[rL A]at h;simp only[lg]at h;have e:lL p R l i ()=match p l[i]with|some true=>some (.inr (R i))|some false=>some (.inl ())|none=>none:=by simp only[lL,cW A]
  simp only[sJ,e];split at h;.rename_i q;cases h;simp only[q];exact .inr ⟨i,rfl,rfl⟩
  .rename_i q;simp only[q];exact D (i+1) z (by omega) h
  cases h
def amq{l:List Int}{p:Int->Option Bool}{g:Nat}{cap:List ae}{S:List bI}(hl:l.length<=1000000)(G:cy af g=true)(J:cap.any ae.fY=false)
 (N:∀x b,x∈l->p x=some b->Z7 g (eI x::cap.map (gQ ([]::S))) ([]::S)=some (eB b,[]::S,false)) {z:Int} (h:lg p 0 l=some z):
 bz af gl Z7 LW [aD l,.fn g cap] S=some (eI z,S,false):=by
 have M:=tP (P:=af) (gl:=gl) (Z7:=Z7) (n:=19) (len:=l.length) (C:=Gk) (B:=DW) (f:=lL p (λ i=>(.ret,[(4,eI i)],(aH [] S))) l)
  (TT:=λ i _=>[(0,aD l),(1,.fn g cap),(7,eI l.length),(8,eI i)]) (ST:=λ _=>(aH [] S))
  (X:=λ _=>(.exit 0,[(0,aD l),(1,.fn g cap),(7,eI l.length),(8,eI l.length),(9,eB false)],(aH [] S))) ?_ ?_ ?_ l.length 0 ()
 .have D:=xe (R:=λ i=>(.ret,[(4,eI i)],(aH [] S))) l.length 0 z (by omega) h;rcases D with⟨rfl,D⟩|⟨j,rfl,D⟩
  .have q:aJ af gl Z7 19 Gk [(0,aD l),(1,.fn g cap),(7,eI l.length),(8,eI 0)] (aH [] S)=_:=M _ (by omega) D;simp+decide only[bz,LW,VB,lk,aB,↓reduceIte,Nat.reduceBEq,Nat.reduceAdd,Qv,Ur,RE,aF,q]
  have q:aJ af gl Z7 19 Gk [(0,aD l),(1,.fn g cap),(7,eI l.length),(8,eI 0)] (aH [] S)=_:=M _ (by omega) D;simp+decide only[bz,LW,VB,lk,aB,↓reduceIte,Nat.reduceBEq,Nat.reduceAdd,Qv,Ur,RE,aF,q]
 .intro i s;rw[awV];simp+decide only[VB,lk,aB,↓reduceIte,Nat.reduceBEq,Nat.reduceAdd]
 .intro i s hi;have A:((i:Int)<(l.length:Int))=True:=dw (by omega);have F:l[i]? =some l[i]:=cW hi;have K:(l.map λ n=>[eI n])[i]? =some [eI l[i]]:=by rw[bM,F];rfl
  simp only[lL,F];cases Y:p l[i];.trivial
  rename_i b;have L:=N _ b (xC hi) Y;cases b;.simp+decide only[DW,VB,lk,aB,↓reduceIte,Nat.reduceBEq,Nat.reduceAdd,ML,UB,P4,UR,OA,A,aY K,gW (show i<=4611686018427387904 by omega),aI G,J,L]
  refine⟨?_,λ h=>by cases h⟩;simp+decide only[DW,VB,lk,aB,↓reduceIte,Nat.reduceBEq,Nat.reduceAdd,ML,UB,P4,UR,OA,A,aY K,aI G,J,L]
 .intro s;refine⟨?_,λ h=>by cases h⟩;simp+decide only[DW,VB,lk,aB,↓reduceIte,Nat.reduceBEq,Nat.reduceAdd,ML,jT]
end
inductive XV where
 |sc (a:aa)
 |int (k:IntKind) (x:Nat) (c:Int)
 |bs (x:Nat)
 |ss (x:Nat)
 |sl (x:Nat) (own:Option Nat)
 |sx (es:List (List XV)) (own:Option Nat)
 |ptr (d k off:Nat)
 |rp (cs:List XV) (off:Nat)
 |ms (d k len sz:Nat)
 |fn (f:Nat) (cap:List XV)
 |agg (cs:List XV)
 |aL (vs:List XV)
 |un
deriving Inhabited
structure SV where
 i:Int
 b:Bool
 s:List UInt8
 l:aS
def SV.z:SV:=⟨0,false,[],[]⟩
abbrev bm:=Nat->SV
mutual
def ev(ρ:bm):XV->ae
 |.sc a=>.sc a
 |.int k x c=>.sc (.int k ((ρ x).i+c))
 |.bs x=>.sc (.bool (ρ x).b)
 |.ss x=>.sc (.str (ρ x).s)
 |.sl x o=>.sl (ρ x).l o
 |.sx es o=>.sl (cL ρ es) o
 |.ptr d k off=>.ptr d k off
 |.rp cs off=>.rp (aE ρ cs) off
 |.ms d k len sz=>.ms d k len sz
 |.fn f cap=>.fn f (aE ρ cap)
 |.agg cs=>.agg (aE ρ cs)
 |.aL vs=>.aL (aE ρ vs)
 |.un=>.un
def aE(ρ:bm):List XV->List ae
 |[]=>[]
 |v::l=>ev ρ v::aE ρ l
def cL(ρ:bm):List (List XV)->aS
 |[]=>[]
 |v::l=>aE ρ v::cL ρ l
end
inductive SE where
 |i (x:Nat) (c:Int)
 |s (x:Nat)
inductive cq where
 |le (a b:Nat) (c:Int)
 |sl (x n:Nat) (c:Int) (nm:Nat) (Z9:List (Nat×Int))
 |str (x:Nat) (set:List (List UInt8))
 |bb (x:Nat) (b:Bool)
 |el (x i:Nat) (c:Int) (cells:List XV)
 |sum (z a b:Nat) (c:Int)
 |pr (k:Nat) (l:List SE)
deriving Inhabited
structure vQ where
 k:Nat
 p:Nat
 cells:List XV
 facts:List cq
inductive LF where
 |f (f:cq)
 |len (x n:Nat) (c:Int)
structure sQ where
 k:Nat
 ahf:List LF
 xH:cq
structure js where
 td:Nat->Option vQ
 pr:Nat->List SV->Prop
 rl:Nat->List sQ
structure Cl where
 k:Nat
 res:XV
 post:List cq
structure Ct where
 ks:List Nat
 args:List XV
 pre:List cq
 dec:Option (Nat×Int)
 outs:List Cl
inductive Cf where
 |t (i:Nat)
 |l (i:Nat)
 |b (k off:Nat)
 |bl (k off:Nat)
 |s (i:Nat)
 |sb (k off:Nat)
 |ul (j k off:Nat)
 |us (j k off:Nat)
structure Inv where
 k:Nat
 refs:List Cf
 T:List (Nat×XV)
 B:List (Nat×List XV)
 U:List (Nat×List (Nat×List XV))
 fs:List (List cq)
 m:(Nat×Int)×(Nat×Int)
abbrev XT:=List (Nat×XV)
abbrev dR:=List (Nat×List XV)
structure XS where
 w:Bool
 cur:dR
 up:List dR
deriving Inhabited
structure XK where
 ls:List (Nat×Nat×Int)
 fs:List cq
 nx:Nat
deriving Inhabited
structure gP where
 v:XV
 src:List Tmp
 s:XS
 e:pj
 k:XK
structure XA where
 T:XT
 s:XS
 k:XK
deriving Inhabited
structure Sm where
 ks:Nat
 args:List (Option XV)
 boxes:List (Nat×Nat×List XV)
 pre:List cq
 outs:List Cl
structure eL where
 fn:Nat->Option cZ
 ct:Nat->Nat->Option Ct
 tb:js
 inv:Nat->Nat->Option Inv
 ok:Nat->Bool
 st:Nat->Bool
 self:Option (Nat×Nat×Int)
 sm:Nat->Nat->Option Sm
def XV.fw:XV->Bool
 |.aL _=>true
 |.un=>true
 |_=>false
def XV.cells:XV->List XV
 |.agg cs=>cs
 |v=>[v]
def XV.cell:XV->Bool
 |.agg _=>false
 |.aL _=>false
 |.un=>false
 |_=>true
def XV.data:XV->Bool
 |.sc _=>true
 |.int _ _ _=>true
 |.bs _=>true
 |.ss _=>true
 |.sl _ _=>true
 |.sx _ _=>true
 |_=>false
def mC:XV->XV
 |.sl x _=>.sl x none
 |.sx es _=>.sx es none
 |v=>v
def mA:XV->XV
 |.sl x _=>.sl x none
 |.sx es _=>.sx es none
 |.agg cs=>.agg (cs.map mC)
 |v=>v
def xS(T:XT)(i:Nat):XV:=match lk T i with|some v=>v|none=>.aL []
def CH(F:dR)(k:Nat)(cs:List XV):dR:=F.map λ p=>if p.1=k then(k,cs)else p
def AM:List dR->Nat->Nat->Option (List XV)
 |[],_,_=>none
 |F::S,d,k=>if d=S.length then lk F k else AM S d k
def FK:List dR->Nat->Nat->List XV->List dR
 |[],_,_,_=>[]
 |F::S,d,k,cs=>if d=S.length then CH F k cs::S else F::FK S d k cs
def Ci(s:XS)(d k:Nat):Option (List XV):=if d=s.up.length then lk s.cur k else AM s.up d k
def Ty(s:XS)(d k:Nat)(cs:List XV):XS:=if d=s.up.length then{s with cur:=CH s.cur k cs}else{s with w:=true,up:=FK s.up d k cs}
def QV(s:XS)(d k:Nat)(cs:List XV):XS:=if d=s.up.length then{s with cur:=CH s.cur k cs}else{s with up:=FK s.up d k cs}
mutual
def Px(d k:Nat):XV->Bool
 |.ptr d' k' _=> !(k'==k&&d'==d)
 |.ms d' k' _ _=> !(k'==k&&d'==d)
 |.fn _ cs=>vW d k cs
 |.agg cs=>vW d k cs
 |.aL cs=>vW d k cs
 |_=>true
def vW(d k:Nat):List XV->Bool
 |[]=>true
 |v::vs=>Px d k v&&vW d k vs
end
def IV(d k:Nat):XT->Bool
 |[]=>true
 |(_,v)::T=>Px d k v&&IV d k T
def Ll(d k:Nat):dR->Bool
 |[]=>true
 |(_,cs)::F=>vW d k cs&&Ll d k F
def zM(T:XT)(s:XS)(k:Nat)(cs:List XV):Option XS:=
 match IV s.up.length k T&&Ll s.up.length k (lJ k s.cur)&&vW s.up.length k cs&&cs.all XV.cell with
 |true=>some {s with cur:=(k,cs)::lJ k s.cur}
 |false=>none
def He(cs:List XV)(off:Nat)(new:List XV):List XV:=cs.take off++new++cs.drop (off+new.length)
def I5(cs:List XV)(off n:Nat):Option (List XV):=if off+n<=cs.length then some ((cs.drop off).take n)else none
def Hc(h:List (Nat×Nat))(cells:List XV):List (Nat×XV)->Option (List XV)
 |[]=>some cells
 |(i,v)::rest=>
  match h[i]?with
  |none=>none
  |some (off,size)=>
   match v.fw,v.cells.length==size,decide (off+size<=cells.length)with
   |false,true,true=>Hc h (He cells off v.cells) rest
   |_,_,_=>none
def LK(sz:Nat)(es:List (List XV)):List (Nat×XV)->Option (List (List XV))
 |[]=>some es
 |(i,v)::rest=>
  match v.cells.all XV.data,v.cells.length==sz,decide (i<es.length)with
  |true,true,true=>LK sz (es.set i (v.cells.map mC)) rest
  |_,_,_=>none
def yi:List Tmp->XT->XT
 |[],T=>T
 |t::l,T=>yi l (match lk T t with|some v=>(t,mA v)::T|none=>T)
def s6(n:Nat)(T:XT)(d:Option Tmp)(v:XV):XT:=
 match d with
 |none=>T
 |some d=>if d<n then(d,v)::T else T
def To(sz:Nat):XV->Option XV
 |.sx [] (some 0)=>some (.sx [] (some sz))
 |.sl _ (some 0)=>none
 |v=>some v
def D4:ae->Option XV
 |.sc (.int k n)=>some (.int k 0 n)
 |.sc a=>some (.sc a)
 |.sl [] o=>some (.sx [] o)
 |.fn f []=>some (.fn f [])
 |_=>none
def tu:List ae->Option (List XV)
 |[]=>some []
 |v::l=>match D4 v,tu l with|some a,some r=>some (a::r)|_,_=>none
def xv:ae->Option XV
 |.agg cs=>match tu cs with|some l=>some (.agg l)|none=>none
 |v=>D4 v
def fC(T:XT):bu->Option XV
 |.t i=>some (xS T i)
 |.i n=>some (.int .i64 0 n)
 |.b x=>some (.sc (.bool x))
 |.v x=>xv x
 |.g _=>none
 |.f f=>some (.fn f [])
def Av(T:XT):List bu->Option (List XV)
 |[]=>some []
 |x::l=>match fC T x,Av T l with|some a,some r=>some (a::r)|_,_=>none
def zi(T:XT):List (Nat×bu)->Option (List (Nat×XV))
 |[]=>some []
 |(i,x)::l=>match fC T x,zi T l with|some a,some r=>some ((i,a)::r)|_,_=>none
def B6(T:XT):Option bu->Option (Option XV)
 |none=>some none
 |some x=>match fC T x with|some a=>some (some a)|none=>none
def Bj(a:Int):Bool:=match a with|.ofNat _=>true|.negSucc _=>false
def Ff(ls:List (Nat×Nat×Int)):Nat->Nat->Nat->Int->Bool
 |0,a,b,c=>Nat.beq a b&&Bj c
 |m+1,a,b,c=>(Nat.beq a b&&Bj c)||ls.any λ f=>Nat.beq f.1 a&&Ff ls m f.2.1 b (c-f.2.2)
def aqQ:Nat:=4
def XK.le(K:XK)(a:Nat)(c:Int)(b:Nat)(d:Int):Bool:=Ff K.ls aqQ a b (d-c)
def XK.add(K:XK)(a:Nat)(c:Int)(b:Nat)(d:Int):XK:={K with ls:=(a,b,d-c)::K.ls}
def XK.fact(K:XK):cq->XK
 |.le a b c=>{K with ls:=(a,b,c)::K.ls}
 |f=>{K with fs:=f::K.fs}
def XK.facts(K:XK):List cq->XK
 |[]=>K
 |f::l=>(K.fact f).facts l
def XK.new(K:XK):XK:={K with nx:=K.nx+1}
def xG(K:XK)(a:Nat)(c:Int)(b:Nat)(d:Int):List (Bool×XK):=
 if K.le a (c+1) b d then[(true,K)]else
 if K.le b d a c then[(false,K)]else
 [(true,K.add a (c+1) b d),(false,K.add b d a c)]
def MW(K:XK)(a:Nat)(c:Int)(b:Nat)(d:Int):List (Bool×XK):=
 if K.le a (c+1) b d then[(false,K)]else
 if K.le b (d+1) a c then[(false,K)]else
 let l:=K.le a c b d
 let g:=K.le b d a c
 if l&&g then[(true,K)]else
 let h:=(K.add a c b d).add b d a c
 if l then[(true,h),(false,K.add a (c+1) b d)]else
 if g then[(true,h),(false,K.add b (d+1) a c)]else
 [(true,h),(false,K)]
def yF(l:List (Bool×XK)):List (Bool×XK):=l.map λ p=>(!p.1,p.2)
def bL(l:List (Bool×XK)):List (XV×XK):=l.map λ p=>(.sc (.bool p.1),p.2)
def ub(K:XK)(x:Nat):Option Int:=if Nat.beq x 0 then some 0 else K.ls.foldl (λ r f=>match Nat.beq f.1 x&&Nat.beq f.2.1 0 with|true=>(match r with|some c=>some (min c f.2.2)|none=>some f.2.2)|false=>r) none
def lb(K:XK)(x:Nat):Option Int:=if Nat.beq x 0 then some 0 else K.ls.foldl (λ r f=>match Nat.beq f.1 0&&Nat.beq f.2.1 x with|true=>(match r with|some c=>some (max c (-f.2.2))|none=>some (-f.2.2))|false=>r) none
def big:Int:=2305843009213693952
def DN:IntKind->Int
 |.i64=> -9223372036854775808
 |_=>0
def Bi:IntKind->Int
 |.i64=>9223372036854775807
 |.u64=>18446744073709551615
 |.u8=>255
 |_=> -1
def rR(K:XK)(o:Option Int)(f:Int->Nat×Int×Nat×Int):XK:=match o with|some h=>K.add (f h).1 (f h).2.1 (f h).2.2.1 (f h).2.2.2|none=>K
def arY(K:XK)(z:Nat):Option (Nat×Nat×Int):=K.fs.findSome? λ f=>match f with|.sum h a b c=>(match Nat.beq h z with|true=>some (a,b,c)|false=>none)|_=>none
def Q6(K:XK)(op:BinOp)(k:IntKind)(a:Nat)(c:Int)(b:Nat)(d:Int):Option (List (XV×XK)):=
 match op with
 |.add=>match k with
  |.i64=>
   if K.le a c 0 big&&K.le 0 (-big) a c&&K.le b d 0 big&&K.le 0 (-big) b d then
    if Nat.beq b 0 then some [(.int k a (c+d),K)]else
    if Nat.beq a 0 then some [(.int k b (c+d),K)]else
    some [(.int k K.nx 0,XK.fact (rR (rR (rR (rR K.new (ub K b) λ h=>(K.nx,0,a,c+d+h)) (lb K b) λ h=>(a,c+d+h,K.nx,0)) (ub K a) λ h=>(K.nx,0,b,c+d+h)) (lb K a) λ h=>(b,c+d+h,K.nx,0)) (.sum K.nx a b (c+d)))]
   else none
  |_=>none
 |.sub=>match k with
  |.i64=>
   if K.le a c 0 big&&K.le 0 (-big) a c&&K.le b d 0 big&&K.le 0 (-big) b d then
    if Nat.beq b 0 then some [(.int k a (c-d),K)]else
    if Nat.beq a b then some [(.int k 0 (c-d),K)]else
    some [(.int k K.nx 0,rR (rR (rR (rR K.new (lb K b) λ h=>(K.nx,0,a,c-d-h)) (ub K b) λ h=>(a,c-d-h,K.nx,0)) (cond (K.le b d a c) (some 0) none) λ h=>(0,h,K.nx,0)) (cond (K.le b (d+1) a c) (some 1) none) λ h=>(0,h,K.nx,0))]
   else none
  |.u64=>if Nat.beq b 0&&Bj d&&K.le 0 d a c&&K.le a c 0 18446744073709551615 then some [(.int k a (c-d),K)]else none
  |_=>none
 |.rem=>
  if K.le 0 0 a c&&K.le 0 1 b d then some [(.int k K.nx 0,(((K.new.add 0 0 K.nx 0).add K.nx 1 b d).add K.nx 0 a c))]
  else none
 |.quo=>
  if K.le 0 0 a c&&K.le a c 0 (Bi k)&&Nat.beq b 0&&Bj (d- 1)then some [(.int k K.nx 0,rR ((K.new.add 0 0 K.nx 0).add K.nx 0 a c) (ub K a) λ h=>(K.nx,0,0,(h+c)/d))]
  else none
 |.shr=>
  if Nat.beq b 0&&decide (d=1)&&decide (c=0)&&K.le 0 0 a 0&&K.le a 0 0 (Bi k)then
   match arY K a with
   |some (x,y,0)=>
    if K.le x 1 y 0 then some [(.int k K.nx 0,((K.new.add x 0 K.nx 0).add K.nx 1 y 0).add K.nx 0 a 0)]
    else if K.le x 0 y 0 then some [(.int k K.nx 0,((K.new.add x 0 K.nx 0).add K.nx 0 y 0).add K.nx 0 a 0)]
    else none
   |_=>none
  else none
 |_=>none
def aaY:BinOp->Option Nat
 |.and=>some 100
 |.or=>some 101
 |.andNot=>some 102
 |_=>none
def P7(K:XK)(op:BinOp)(k:IntKind)(a:Nat)(c:Int)(b:Nat)(d:Int):Option (List (XV×XK)):=
 match aaY op,k with
 |some id,.u64=>some [(.int .u64 K.nx 0,((K.new.add 0 0 K.nx 0).add K.nx 0 0 18446744073709551615).fact (.pr id [.i a c,.i b d,.i K.nx 0]))]
 |_,_=>Q6 K op k a c b d
def Pd(K:XK)(k:IntKind)(a:Nat)(c:Int)(b:Nat)(d:Int):Option (List (XV×XK)):=
 match k with
 |.u64=>if K.le 0 0 b d then some [(.int .u64 K.nx 0,((K.new.add 0 0 K.nx 0).add K.nx 0 0 18446744073709551615).fact (.pr 103 [.i a c,.i b d,.i K.nx 0]))]else none
 |_=>none
def Ol(K:XK)(op:BinOp)(k:IntKind)(a:Nat)(c:Int)(b:Nat)(d:Int):Option (List (XV×XK)):=
 match op with
 |.lss=>some (bL (xG K a c b d))
 |.gtr=>some (bL (xG K b d a c))
 |.leq=>some (bL (yF (xG K b d a c)))
 |.geq=>some (bL (yF (xG K a c b d)))
 |.eql=>some (bL (MW K a c b d))
 |.neq=>some (bL (yF (MW K a c b d)))
 |op=>P7 K op k a c b d
def Z1(K:XK)(op:BinOp):Option (List (XV×XK)):=
 match op with
 |.eql=>some [(.bs K.nx,K.new)]
 |.neq=>some [(.bs K.nx,K.new)]
 |_=>none
def XV.isStr:XV->Bool
 |.ss _=>true
 |.sc (.str _)=>true
 |_=>false
def PV(K:XK)(op:BinOp)(x y:XV):Option (List (XV×XK)):=
 match x,y with
 |.int k a c,.int h b d=>match op with
  |.shl=>Pd K k a c b d
  |op=>if k=h then Ol K op k a c b d else none
 |x,y=>match x.isStr&&y.isStr with|true=>Z1 K op|false=>none
def D8(K:XK)(x:Nat):List (Bool×XK):=
 match K.fs.findSome? λ f=>match f with|.bb y b=>(match Nat.beq y x with|true=>some b|false=>none)|_=>none with
 |some b=>[(b,K)]
 |none=>[(true,K.fact (.bb x true)),(false,K.fact (.bb x false))]
def JX(K:XK):XV->Option (List (Bool×XK))
 |.sc (.bool b)=>some [(b,K)]
 |.bs x=>some (D8 K x)
 |_=>none
abbrev Sub:=List SE
def Sub.num(σ:Sub)(x:Nat):Nat×Int:=match σ[x]?with|some (.i y d)=>(y,d)|some (.s y)=>(y,0)|none=>(0,0)
def Sub.sym(σ:Sub)(x:Nat):Nat:=match σ[x]?with|some (.s y)=>y|_=>0
mutual
def oD(σ:Sub):XV->XV
 |.sc a=>.sc a
 |.int k x c=>.int k (σ.num x).1 ((σ.num x).2+c)
 |.bs x=>.bs (σ.sym x)
 |.ss x=>.ss (σ.sym x)
 |.sl x o=>.sl (σ.sym x) o
 |.sx es o=>.sx (tK σ es) o
 |.ptr d k off=>.ptr d k off
 |.rp cs off=>.rp (gp σ cs) off
 |.ms d k len sz=>.ms d k len sz
 |.fn f cap=>.fn f (gp σ cap)
 |.agg cs=>.agg (gp σ cs)
 |.aL vs=>.aL (gp σ vs)
 |.un=>.un
def gp(σ:Sub):List XV->List XV
 |[]=>[]
 |v::l=>oD σ v::gp σ l
def tK(σ:Sub):List (List XV)->List (List XV)
 |[]=>[]
 |v::l=>gp σ v::tK σ l
end
def nR(σ:Sub)(p:Nat×Int):Nat×Int:=((σ.num p.1).1,(σ.num p.1).2+p.2)
def Jo(σ:Sub):SE->SE
 |.i x c=>.i (σ.num x).1 ((σ.num x).2+c)
 |.s x=>match σ[x]?with|some e=>e|none=>.i 0 0
def Eb(σ:Sub):cq->cq
 |.le a b c=>.le (σ.num a).1 (σ.num b).1 ((σ.num b).2+c-(σ.num a).2)
 |.sl x n c nm Z9=>.sl (σ.sym x) (σ.num n).1 ((σ.num n).2+c) nm (Z9.map (nR σ))
 |.str x set=>.str (σ.sym x) set
 |.bb x b=>.bb (σ.sym x) b
 |.el x i c cells=>.el (σ.sym x) (σ.num i).1 ((σ.num i).2+c) (gp σ cells)
 |.sum z a b c=>.sum (σ.num z).1 (σ.num a).1 (σ.num b).1 ((σ.num a).2+(σ.num b).2+c-(σ.num z).2)
 |.pr k l=>.pr k (l.map (Jo σ))
def cN:Nat->Nat->Sub
 |0,_=>[]
 |m+1,i=>.s i::cN m (i+1)
def Bg(C:eL)(K:XK)(nm:Nat)(Z9:List (Nat×Int))(i:Nat×Int):Option (List XV×XK):=
 match C.tb.td nm with
 |some d=>
  if Z9.length=d.p then
   let σ:Sub:=.i 0 0::Z9.map (λ p=>.i p.1 p.2)++.i i.1 i.2::cN (d.k-d.p- 2) K.nx
   some (gp σ d.cells,{K with nx:=K.nx+(d.k-d.p- 2)}.facts (d.facts.map (Eb σ)))
  else none
 |none=>none
def pX(K:XK)(x:Nat):Option (Nat×Int×Nat×List (Nat×Int)):=K.fs.findSome? λ f=>match f with|.sl y n c nm Z9=>(match Nat.beq y x with|true=>some (n,c,nm,Z9)|false=>none)|_=>none
def Ji(K:XK)(x i:Nat)(c:Int):Option (List XV):=K.fs.findSome? λ f=>match f with|.el y j d cells=>(match Nat.beq y x&&Nat.beq j i&&decide (c=d)with|true=>some cells|false=>none)|_=>none
def strOf(K:XK)(x:Nat):Option (List (List UInt8)):=K.fs.findSome? λ f=>match f with|.str y l=>(match Nat.beq y x with|true=>some l|false=>none)|_=>none
abbrev bk:=List (Option XV)
def bk.at(E:bk)(x:Nat):Option XV:=match E[x]?with|some (some v)=>some v|_=>none
def XK.eq(K:XK)(a:Nat)(c:Int)(b:Nat)(d:Int):Bool:=(Nat.beq a b&&decide (c=d))||(K.le a c b d&&K.le b d a c)
def put(E:bk)(x:Nat)(v:XV):Option bk:=match E[x]?with|some none=>some (E.set x (some v))|_=>none
def Kk:aa->aa->Bool
 |.bool a,.bool b=>a==b
 |.str a,.str b=>decide (a=b)
 |.nilPtr,.nilPtr=>true
 |.nilFunc,.nilFunc=>true
 |_,_=>false
def Md(K:XK)(p v:XV)(E:bk):Option bk:=
 match p,v with
 |.int k x c,.int A y d=>
  if k=A then
   match E[x]?with
   |some none=>some (E.set x (some (.int .i64 y (d-c))))
   |some (some (.int _ z e))=>if K.eq z (e+c) y d then some E else none
   |_=>none
  else none
 |.bs x,.bs y=>put E x (.bs y)
 |.bs x,.sc (.bool b)=>put E x (.sc (.bool b))
 |.ss x,.ss y=>put E x (.ss y)
 |.ss x,.sc (.str s)=>put E x (.sc (.str s))
 |.sl x o,.sl y h=>if o=h then put E x (.sl y none)else none
 |.sl x o,.sx es h=>if o=h then put E x (.sx es none)else none
 |.sc a,.sc b=>if Kk a b then some E else none
 |.sx [] o,.sx [] h=>if o=h then some E else none
 |.sx [[.int .i64 x 0]] o,.sx [[.int .i64 y d]] h=>if o=h then put E x (.int .i64 y d)else none
 |.sx [[.int .i64 x 0],[.int .i64 x' 0]] o,.sx [[.int .i64 y d],[.int .i64 q D]] h=>if o=h then(match put E x (.int .i64 y d)with|some E=>put E x' (.int .i64 q D)|none=>none)else none
 |.sx [] o,.sl y h=>if o=h then(match pX K y with|some (n,c,_,_)=>if K.le n c 0 0 then some E else none|none=>none)else none
 |.fn f [],.fn g []=>if f=g then some E else none
 |.un,.un=>some E
 |_,_=>none
def wB(K:XK):List XV->List XV->bk->Option bk
 |[],[],E=>some E
 |p::ps,v::vs,E=>match Md K p v E with|some E=>wB K ps vs E|none=>none
 |_,_,_=>none
def MK(K:XK)(p v:XV)(E:bk):Option bk:=
 match p,v with
 |.agg ps,.agg vs=>wB K ps vs E
 |p,v=>Md K p v E
def LJ(K:XK):List XV->List XV->bk->Option bk
 |[],[],E=>some E
 |p::ps,v::vs,E=>match MK K p v E with|some E=>LJ K ps vs E|none=>none
 |_,_,_=>none
def Bm(K:XK)(p v:XV)(E:bk):Option bk:=
 match p,v with
 |.aL ps,.aL vs=>LJ K ps vs E
 |p,v=>MK K p v E
def IB(K:XK):List XV->List XV->bk->Option bk
 |[],[],E=>some E
 |p::ps,v::vs,E=>match Bm K p v E with|some E=>IB K ps vs E|none=>none
 |_,_,_=>none
def bk.num(E:bk)(x:Nat)(c:Int):Option (Nat×Int):=match E.at x with|some (.int _ y d)=>some (y,d+c)|_=>none
def bk.AK(E:bk):List (Nat×Int)->Option (List (Nat×Int))
 |[]=>some []
 |p::l=>match E.num p.1 p.2,E.AK l with|some q,some r=>some (q::r)|_,_=>none
def JM(K:XK):List (Nat×Int)->List (Nat×Int)->Bool
 |[],[]=>true
 |p::l,q::r=>K.eq p.1 p.2 q.1 q.2&&JM K l r
 |_,_=>false
def zw(K:XK)(E:bk)(n:Nat)(c:Int)(y:Nat)(d:Int):Option bk:=
 match E[n]?with
 |some none=>some (E.set n (some (.int .i64 y (d-c))))
 |some (some (.int _ z e))=>if K.eq z (e+c) y d then some E else none
 |_=>none
def IT(K:XK)(p v:SE)(E:bk):Option bk:=
 match p,v with
 |.i x c,.i y d=>zw K E x c y d
 |.i _ _,.s _=>none
 |.s x,.s y=>match E[x]?with
  |some none=>some (E.set x (some (.sl y none)))
  |some (some (.sl z _))=>if Nat.beq y z then some E else none
  |some (some (.bs z))=>if Nat.beq y z then some E else none
  |some (some (.ss z))=>if Nat.beq y z then some E else none
  |some (some (.sx [] _))=>if Nat.beq y 0 then some E else none
  |_=>none
 |.s x,.i y d=>match E[x]?with
  |some none=>some (E.set x (some (.int .i64 y d)))
  |some (some (.int _ z e))=>if K.eq z e y d then some E else none
  |_=>none
def FI(K:XK):List SE->List SE->bk->Option bk
 |[],[],E=>some E
 |p::ps,v::vs,E=>match IT K p v E with|some E=>FI K ps vs E|none=>none
 |_,_,_=>none
def Jx(K:XK):List (Nat×Int)->List (Nat×Int)->bk->Option bk
 |[],[],E=>some E
 |p::ps,v::vs,E=>match zw K E p.1 p.2 v.1 v.2 with|some E=>Jx K ps vs E|none=>none
 |_,_,_=>none
def zj(K:XK):List LF->bk->Option bk
 |[],E=>some E
 |p::ps,E=>match p with
  |.len x n c=>match E.at x with
   |some (.sl y _)=>(match pX K y with|some (m,d,_,_)=>(match zw K E n c m d with|some E=>zj K ps E|none=>none)|none=>none)
   |_=>none
  |.f (.le a b c)=>match E.num a 0,E.num b c with
   |some (x,d),some (y,e)=>if K.le x d y e then zj K ps E else none
   |_,_=>none
  |.f (.el x i c cells)=>match E.at x,E.num i c with
   |some (.sl y _),some (j,d)=>(match Ji K y j d with|some vs=>(match wB K cells vs E with|some E=>zj K ps E|none=>none)|none=>none)
   |_,_=>none
  |.f (.pr k l)=>K.fs.findSome? λ f=>match f with
   |.pr h l'=>(match Nat.beq k h with|true=>(match FI K l l' E with|some E=>zj K ps E|none=>none)|false=>none)
   |_=>none
  |_=>none
def Pm(K:XK)(p f:cq)(E:bk):Option bk:=
 match p,f with
 |.pr k l,.pr q l'=>if Nat.beq k q then FI K l l' E else none
 |.sl x n c nm Z9,.sl y m d h bs=>if Nat.beq nm h then
  (match IT K (.s x) (.s y) E with
  |some E=>(match zw K E n c m d with|some E=>Jx K Z9 bs E|none=>none)
  |none=>none)else none
 |_,_=>none
def KH(tb:js)(K:XK)(h:Nat)(f:cq):Bool:=
 (tb.rl h).any λ r=>match Pm K r.xH f (some (.int .i64 0 0)::List.replicate r.k none)with
  |some E=>(zj K r.ahf E).isSome
  |none=>false
def OU(E:bk):SE->Option SE
 |.i x c=>match E.num x c with|some (y,d)=>some (.i y d)|none=>none
 |.s x=>match E.at x with
  |some (.sl y _)=>some (.s y)
  |some (.bs y)=>some (.s y)
  |some (.ss y)=>some (.s y)
  |some (.int _ y d)=>some (.i y d)
  |some (.sx [] _)=>some (.s 0)
  |_=>none
def KG(E:bk):List SE->Option (List SE)
 |[]=>some []
 |e::l=>match OU E e,KG E l with|some a,some r=>some (a::r)|_,_=>none
def uD(K:XK):List SE->List SE->Bool
 |[],[]=>true
 |.i y d::l,.i h q::r=>K.eq y d h q&&uD K l r
 |.s y::l,.s h::r=>Nat.beq y h&&uD K l r
 |_,_=>false
def Tp(K:XK)(k:Nat)(l:List SE):Bool:=K.fs.any λ f=>match f with|.pr h l'=>Nat.beq k h&&uD K l' l|_=>false
def agN(a b:List (List UInt8)):Bool:=a.all λ s=>b.elem s
mutual
def Nn(C:eL)(K:XK):Nat->cq->bk->Option bk
 |0,_,_=>none
 |m+1,f,E=>match f with
  |.le a b c=>match E.num a 0,E.num b c with
   |some (x,d),some (y,e)=>if K.le x d y e then some E else none
   |_,_=>none
  |.bb x b=>match E.at x with
   |some (.sc (.bool b'))=>if b=b' then some E else none
   |some (.bs y)=>(match D8 K y with|[(b',_)]=>if b=b' then some E else none|_=>none)
   |_=>none
  |.el x i c cells=>match E.at x,E.num i c with
   |some (.sl y _),some (j,d)=>(match Ji K y j d with|some vs=>wB K cells vs E|none=>none)
   |_,_=>none
  |.sum _ _ _ _=>none
  |.pr k l=>match KG E l with
   |some l'=>if Tp K k l'||KH C.tb K (2*k) (.pr k l')then some E else none
   |none=>none
  |.str x set=>match E.at x with
   |some (.sc (.str s))=>if set.elem s then some E else none
   |some (.ss y)=>(match strOf K y with|some l=>if agN l set then some E else none|none=>none)
   |_=>none
  |.sl x n c nm Z9=>match E.at x with
   |some (.sl y _)=>match pX K y with
    |some (n',c',nm',as')=>match zw K E n c n' c' with
     |some E'=>match E'.AK Z9 with
      |some bs=>if(Nat.beq nm nm'&&JM K as' bs||KA C K m n' c' nm' as' nm bs)||KH C.tb K (2*nm+1) (.sl y n' c' nm bs)then some E' else none
      |none=>none
     |none=>none
    |none=>none
   |some (.sx es _)=>match zw K E n c 0 es.length with
    |some E'=>match E'.AK Z9 with
     |some bs=>if elems C K m nm bs 0 es then some E' else none
     |none=>none
    |none=>none
   |_=>none
def uS(C:eL)(K:XK):Nat->List cq->bk->Option bk
 |0,_,_=>none
 |m+1,l,E=>match l with
  |[]=>some E
  |f::l=>match Nn C K m f E with|some E=>uS C K m l E|none=>none
def Ba(C:eL)(K:XK):Nat->Nat->List (Nat×Int)->Nat×Int->List XV->Bool
 |0,_,_,_,_=>false
 |m+1,nm,Z9,i,cells=>match C.tb.td nm with
  |some d=>if Z9.length=d.p then
   (match wB K d.cells cells (some (.int .i64 0 0)::Z9.map (λ p=>some (.int .i64 p.1 p.2))++some (.int .i64 i.1 i.2)::List.replicate (d.k-d.p- 2) none)with
   |some E=>(uS C K m d.facts E).isSome
   |none=>false)
   else false
  |none=>false
def elems(C:eL)(K:XK):Nat->Nat->List (Nat×Int)->Nat->List (List XV)->Bool
 |0,_,_,_,_=>false
 |m+1,nm,Z9,i,l=>match l with
  |[]=>true
  |e::l=>Ba C K m nm Z9 (0,i) e&&elems C K m nm Z9 (i+1) l
def KA(C:eL)(K:XK):Nat->Nat->Int->Nat->List (Nat×Int)->Nat->List (Nat×Int)->Bool
 |0,_,_,_,_,_,_=>false
 |m+1,n',c',nm',as',nm,Z9=>
  match Bg C ((K.new.add 0 0 K.nx 0).add K.nx 1 n' c') nm' as' (K.nx,0)with
  |some (cells,K')=>Ba C K' m nm Z9 (K.nx,0) cells
  |none=>false
end
def cF:Nat:=40
def TV(C:eL)(K:XK)(sl:Option Nat)(h:Option (Nat×Nat))(x ix:XV):Option (List (XV×XK)):=
 match x,ix with
 |.sl y _,.int _ i c=>match sl,pX K y with
  |some sz,some (n,d,nm,Z9)=>if K.le 0 0 i c&&K.le i (c+1) n d then
   (match Ji K y i c with
   |some cells=>if cells.length=sz then some [(.rp cells 0,K)]else none
   |none=>match Bg C K nm Z9 (i,c)with
    |some (cells,q)=>if cells.length=sz then some [(.rp cells 0,q.fact (.el y i c cells))]else none
    |none=>none)
   else none
  |_,_=>none
 |.sx es _,.int _ i c=>match sl with
  |some sz=>if Nat.beq i 0 then(match c with
   |.ofNat j=>(match es[j]?with|some e=>if e.length=sz then some [(.rp e 0,K)]else none|none=>none)
   |_=>none)
   else if K.le 0 0 i c&&K.le i (c+1) 0 es.length&&es.all (λ e=>e.length==sz)then some (es.zipIdx.map λ p=>(.rp p.1 0,(K.add i c 0 p.2).add 0 p.2 i c))
   else none
  |none=>none
 |.ptr d k off,.int _ i c=>match h with
  |some (n,sz)=>if Nat.beq i 0 then(match c with|.ofNat j=>if j<n then some [(.ptr d k (off+j*sz),K)]else none|_=>none)else none
  |none=>none
 |.rp cs off,.int _ i c=>match h with
  |some (n,sz)=>if Nat.beq i 0 then(match c with|.ofNat j=>if j<n then some [(.rp cs (off+j*sz),K)]else none|_=>none)else none
  |none=>none
 |_,_=>none
def Uk(C:eL)(K:XK)(sl:Bool)(t:Nat):XV->Option (XV×XK)
 |.sc (.str s)=>match C.st t with|true=>some (.int .i64 0 s.length,K)|false=>none
 |.sx es _=>match sl with|true=>some (.int .i64 0 es.length,K)|false=>none
 |.sl y _=>match sl,pX K y with|true,some (n,c,_,_)=>some (.int .i64 n c,K)|_,_=>none
 |.ms _ _ n _=>match sl with|true=>some (.int .i64 0 n,K)|false=>none
 |_=>none
def maxLen:Int:=1073741824
def Om(C:eL)(K:XK)(sz:Nat)(s x:XV):Option (XV×XK):=
 match s,x with
 |.sx es (some z),.sx new _=>if(z=sz\/(z=0/\es.length=0))/\es.length+new.length<=1073741824/\new.all (λ e=>e.length==sz)then some (.sx (es++new) (some sz),K)else none
 |.sx es (some z),.sl y _=>
  match pX K y with
  |some (n,c,nm,_)=>match C.tb.td nm with
   |some d=>if es.length=0/\(z=sz\/z=0)/\d.cells.length=sz/\K.le n c 0 maxLen then some (.sl y (some sz),K)else none
   |none=>none
  |none=>none
 |.sl y (some z),.sx new _=>
  match pX K y with
  |some (n,c,nm,Z9)=>
   if z=sz/\new.all (λ e=>e.length==sz)/\K.le n (c+new.length) 0 maxLen/\(new.zipIdx.all λ p=>Ba C K cF nm Z9 (n,c+p.2) p.1)then some (.sl K.nx (some sz),K.new.fact (.sl K.nx n (c+new.length) nm Z9))
   else none
  |none=>none
 |.sl y (some z),.sl x _=>
  match pX K y,pX K x with
  |some (n,c,nm,Z9),some (D,A,q,F)=>
   match C.tb.td q with
   |some d=>
    if z=sz/\d.cells.length=sz then
     (match Bg C ((K.new.new.add 0 0 K.nx 0).add 0 0 (K.nx+1) 0) q F (K.nx,0),ub K n,ub K D with
     |some (cells,J),some h,some G=>
      if Bj (maxLen-(h+c+G+A))&&Ba C J cF nm Z9 (K.nx+1,0) cells then some (.sl (K.nx+1) (some sz),((((K.new.new.add K.nx 0 n (c+A+G)).add K.nx 0 D (c+A+h)).add n c K.nx 0).add D A K.nx 0).fact (.sl (K.nx+1) K.nx 0 nm Z9))
      else none
     |_,_,_=>none)
    else none
   |none=>none
  |_,_=>none
 |_,_=>none
def On(C:eL)(K:XK)(sl:Option Nat)(x:XV)(lo hi:Option XV):Option (XV×XK):=
 match sl,x,lo,hi with
 |some sz,.sl y _,none,some (.int _ h c)=>match pX K y with
  |some (n,d,nm,Z9)=>match C.tb.td nm with
   |some t=>if t.cells.length=sz/\K.le 0 0 h c/\K.le h c n d then some (.sl K.nx none,K.new.fact (.sl K.nx h c nm Z9))else none
   |none=>none
  |none=>none
 |some sz,.sx es _,none,some (.int _ h c)=>if Nat.beq h 0 then(match c with
  |.ofNat j=>if j<=es.length/\es.all (λ e=>e.length==sz)then some (.sx (es.take j) none,K)else none
  |_=>none)else
  if es.length=0/\K.le 0 0 h c/\K.le h c 0 0 then some (.sx [] none,K)else none
 |_,_,_,_=>none
def UH(C:eL)(t:Nat):XV->XV->Option XV
 |.sc (.str s),.int _ 0 (.ofNat j)=>match C.st t,s[j]?with|true,some b=>some (.int .u8 0 b.toNat)|_,_=>none
 |_,_=>none
def Ky(d:Nat):Option XV->Option Nat
 |none=>some d
 |some (.int _ 0 (.ofNat j))=>some j
 |_=>none
def Yz(str:Bool)(s:List UInt8)(lo hi:Option XV):Option XV:=
 match str,Ky 0 lo,Ky s.length hi with
 |true,some l,some h=>if l<=h/\h<=s.length then some (.sc (.str ((s.drop l).take (h-l))))else none
 |_,_,_=>none
def QZ(C:eL)(K:XK)(sl:Option Nat)(str:Bool)(x:XV)(lo hi:Option XV):Option (XV×XK):=
 match x with
 |.sc (.str s)=>match Yz str s lo hi with|some v=>some (v,K)|none=>none
 |x=>On C K sl x lo hi
def ahK:XV->Option XV
 |.ptr d k off=>some (.ptr d k off)
 |.rp cs off=>some (.rp cs off)
 |.fn f cs=>some (.fn f cs)
 |_=>none
def abD(o:Nat):XV->Option XV
 |.ptr d k off=>some (.ptr d k (off+o))
 |.rp cs off=>some (.rp cs (off+o))
 |_=>none
def Dc(agg:Bool)(n:Nat)(cs:List XV)(off:Nat):Option XV:=
 match agg with
 |true=>match I5 cs off n with|some l=>some (.agg l)|none=>none
 |false=>cs[off]?
def B1(tk agg:Bool)(n:Nat)(s:XS):XV->Option (XV×Option (Nat×Nat)×XS)
 |.rp cs off=>match Dc agg n cs off with|some v=>some (mA v,none,s)|none=>none
 |.ptr d k off=>match Ci s d k with
  |some cs=>match Dc agg n cs off with
   |some v=>(match tk with
    |true=>some (v,some (d,k),QV s d k (He cs off ((cond agg v.cells [v]).map mC)))
    |false=>some (mA v,some (d,k),s))
   |none=>none
  |none=>none
 |_=>none
def Uo(s:XS)(n:Nat)(x v:XV):Option (XS×Nat×Nat):=
 match x with
 |.ptr d k off=>
  match Ci s d k with
  |some cs=>
   match v.fw,v.cells.length==n,decide (off+n<=cs.length),(d==s.up.length||v.cells.all XV.data)&&v.cells.all XV.cell with
   |false,true,true,true=>some (Ty s d k (He cs off v.cells),d,k)
   |_,_,_,_=>none
  |none=>none
 |_=>none
def Qq(K:XK):XV->XV->Option (List (XV×XK))
 |.int k a c,.int _ b d=>some ((xG K b d a c).map λ p=>(match p.1 with|true=>.int k b d|false=>.int k a c,p.2))
 |_,_=>none
def Up(K:XK):XV->XV->Option (List (XV×XK))
 |.int k a c,.int _ b d=>some ((xG K a c b d).map λ p=>(match p.1 with|true=>.int k b d|false=>.int k a c,p.2))
 |_,_=>none
def Q8(K:XK)(k:IntKind):XV->Option XV
 |.int _ a c=>if K.le 0 (DN k) a c&&K.le a c 0 (Bi k)then some (.int k a c)else none
 |_=>none
def Sy(K:XK)(op:UnOp):XV->Option (List (XV×XK))
 |.sc (.bool b)=>match op with|.not=>some [(.sc (.bool (!b)),K)]|_=>none
 |.bs x=>match op with|.not=>some ((D8 K x).map λ p=>(.sc (.bool (!p.1)),p.2))|_=>none
 |_=>none
def Rl(i:Nat):XV->Option XV
 |.aL vs=>match vs[i]?with|some v=>some (mA v)|none=>none
 |_=>none
def XV.open:XV->Bool
 |.un=>true
 |.ptr _ _ _=>true
 |.rp _ _=>true
 |.fn _ (_::_)=>true
 |.aL _=>true
 |.agg cs=>cs.any λ c=> !c.data
 |_=>false
def XV.fY:XV->Bool
 |.ms _ _ _ _=>true
 |_=>false
def MT:XV->XV
 |.sl x o=>.sl x o
 |.sx es o=>.sx es o
 |.agg cs=>match cs.all XV.data with|true=>.agg (cs.map mC)|false=>.aL []
 |.fn f []=>.fn f []
 |.sc a=>.sc a
 |.int k x c=>.int k x c
 |.bs x=>.bs x
 |.ss x=>.ss x
 |_=>.aL []
def sw:List XV->XV
 |[v]=>MT v
 |l=>.aL (l.map λ v=>mA (MT v))
def qc(s:XS)(T:XT):List CR->Option (List XV)
 |[]=>some []
 |.t t::rs=>match qc s T rs with|some l=>some (xS T t::l)|none=>none
 |.c a agg n::rs=>match B1 false agg n s (xS T a),qc s T rs with|some (v,_,_),some l=>some (v::l)|_,_=>none
def oQ:Nat->List XV->XT
 |_,[]=>[]
 |i,v::l=>(i,v)::oQ (i+1) l
def tB(s:XS)(K:XK)(src:List Tmp)(e:pj):Option XV->Option (List gP)
 |some v=>some [⟨v,src,s,e,K⟩]
 |none=>none
def Mr(s:XS)(e:pj):Option (XV×XK)->Option (List gP)
 |some (v,K)=>some [⟨v,[],s,e,K⟩]
 |none=>none
def uO(s:XS)(e:pj):Option (List (XV×XK))->Option (List gP)
 |some l=>some (l.map λ p=>⟨p.1,[],s,e,p.2⟩)
 |none=>none
def cH:bk->Nat->Sub×Nat
 |[],nx=>([],nx)
 |some (.int _ y d)::l,nx=>let r:=cH l nx;(.i y d::r.1,r.2)
 |some (.sl y _)::l,nx=>let r:=cH l nx;(.s y::r.1,r.2)
 |some (.bs y)::l,nx=>let r:=cH l nx;(.s y::r.1,r.2)
 |some (.ss y)::l,nx=>let r:=cH l nx;(.s y::r.1,r.2)
 |_::l,nx=>let r:=cH l (nx+1);(.s nx::r.1,r.2)
def vy(s:XS)(K:XK)(σ:Sub)(nx:Nat)(o:Cl):gP:=
 let h:=σ++cN o.k nx
 ⟨oD h o.res,[],s,.eP .clean,{K with nx:=nx+o.k}.facts (o.post.map (Eb h))⟩
def Wd(C:eL)(K:XK)(g:Nat)(r:Option (Nat×Int))(E:bk):Bool:=
 match C.self with
 |some (f,a,c)=>if Nat.beq f g then(match r with
  |some (x,_)=>match E.num x 0 with|some (y,d)=>K.le y (d+1) a 0&&K.le 0 c y d|none=>false
  |none=>false)else true
 |none=>true
def vm:List Nat->bk->Bool
 |0::ks,some (.int _ _ _)::E=>vm ks E
 |0::ks,none::E=>vm ks E
 |0::_,_=>false
 |_::ks,_::E=>vm ks E
 |[],_=>true
 |_,[]=>true
def Ni(C:eL)(s:XS)(K:XK)(g:Nat)(ct:Ct)(args:List XV):Option (List gP):=
 match IB K ct.args args (some (.int .i64 0 0)::List.replicate ct.ks.length none)with
 |some E=>match uS C K cF ct.pre E with
  |some E=>if vm ct.ks (E.drop 1)&&Wd C K g ct.dec E then
   (let r:=cH E K.nx
   some (ct.outs.map (vy s K r.1 r.2)))
   else none
  |none=>none
 |none=>none
mutual
def nP:XV->XV->Bool
 |.sc a,.sc b=>Kk a b
 |.int k x c,.int k' x' c'=>decide (k=k')&&Nat.beq x x'&&decide (c=c')
 |.bs x,.bs y=>Nat.beq x y
 |.ss x,.ss y=>Nat.beq x y
 |.sl x o,.sl y o'=>Nat.beq x y&&decide (o=o')
 |.sx es o,.sx es' o'=>CG es es'&&decide (o=o')
 |.ptr d k o,.ptr d' k' o'=>Nat.beq d d'&&Nat.beq k k'&&Nat.beq o o'
 |.rp cs o,.rp cs' o'=>rY cs cs'&&Nat.beq o o'
 |.ms d k o z,.ms d' k' o' z'=>Nat.beq d d'&&Nat.beq k k'&&Nat.beq o o'&&Nat.beq z z'
 |.fn f cs,.fn f' cs'=>Nat.beq f f'&&rY cs cs'
 |.agg cs,.agg cs'=>rY cs cs'
 |.aL cs,.aL cs'=>rY cs cs'
 |.un,.un=>true
 |_,_=>false
def rY:List XV->List XV->Bool
 |[],[]=>true
 |v::l,w::r=>nP v w&&rY l r
 |_,_=>false
def CG:List (List XV)->List (List XV)->Bool
 |[],[]=>true
 |v::l,w::r=>rY v w&&CG l r
 |_,_=>false
end
def nv{α β:Type}(f:α->Option (List β)):List α->Option (List β)
 |[]=>some []
 |a::l=>match f a,nv f l with|some x,some y=>some (x++y)|_,_=>none
def HN(K:XK):List (Option XV)->List XV->bk->Option bk
 |[],_,E=>some E
 |none::ps,_::vs,E=>HN K ps vs E
 |some p::ps,v::vs,E=>match Bm K p v E with|some E=>HN K ps vs E|none=>none
 |_,_,_=>none
def Ja(K:XK)(S:List dR):List (Nat×Nat×List XV)->bk->Option bk
 |[],E=>some E
 |(d,k,p)::l,E=>match S[S.length- 1-d]?with
  |some F=>(match lk F k with
   |some cs=>(match wB K p cs E with|some E=>Ja K S l E|none=>none)
   |none=>none)
  |none=>none
def zJ:dR->dR->Bool
 |[],[]=>true
 |(i,v)::l,(j,w)::r=>Nat.beq i j&&rY v w&&zJ l r
 |_,_=>false
def Dg:List dR->List dR->Bool
 |[],[]=>true
 |F::l,G::r=>zJ F G&&Dg l r
 |_,_=>false
def afL(a b:XS):Bool:=a.w==b.w&&zJ a.cur b.cur&&Dg a.up b.up
def aqb:pj->Bool
 |.eP .clean=>true
 |_=>false
def ad9(C:eL)(E:bk)(r:gP)(o:Cl):Bool:=
 match Bm r.k o.res r.v (E++List.replicate o.k none)with
 |some h=>(uS C r.k cF o.post h).isSome
 |none=>false
def L8(C:eL)(sm:Sm)(s:XS)(K:XK)(args:List XV)(h:List gP):Option (List gP):=
 match HN K sm.args args (some (.int .i64 0 0)::List.replicate sm.ks none)with
 |some E=>match Ja K (s.cur::s.up) sm.boxes E with
  |some E=>match uS C K cF sm.pre E with
   |some E=>
    if E.all Option.isSome&&h.all (λ r=>afL r.s s&&aqb r.e&&sm.outs.any (ad9 C E r))then
     (let r:=cH E K.nx
     some (sm.outs.map (vy s K r.1 r.2)))
    else none
   |none=>none
  |none=>none
 |none=>none
def uv(T:XT)(s:XS)(K:XK):Cf->Option XV
 |.t i=>match lk T i with|some (.int _ x c)=>some (.int .i64 x c)|_=>none
 |.l i=>match lk T i with|some (.sl x _)=>(match pX K x with|some (n,c,_,_)=>some (.int .i64 n c)|none=>none)|some (.sx es _)=>some (.int .i64 0 es.length)|_=>none
 |.b k o=>match lk s.cur k with|some cs=>(match cs[o]?with|some (.int _ x c)=>some (.int .i64 x c)|_=>none)|none=>none
 |.bl k o=>match lk s.cur k with|some cs=>(match cs[o]?with|some (.sl x _)=>(match pX K x with|some (n,c,_,_)=>some (.int .i64 n c)|none=>none)|some (.sx es _)=>some (.int .i64 0 es.length)|_=>none)|none=>none
 |.s i=>match lk T i with|some (.sl x _)=>some (.sl x none)|some (.sx [] _)=>some (.sx [] none)|_=>none
 |.sb k o=>match lk s.cur k with|some cs=>(match cs[o]?with|some (.sl x _)=>some (.sl x none)|some (.sx [] _)=>some (.sx [] none)|_=>none)|none=>none
 |.ul j k o=>match s.up[s.up.length- 1-j]?with|some F=>(match lk F k with|some cs=>(match cs[o]?with|some (.sl x _)=>(match pX K x with|some (n,c,_,_)=>some (.int .i64 n c)|none=>none)|_=>none)|none=>none)|none=>none
 |.us j k o=>match s.up[s.up.length- 1-j]?with|some F=>(match lk F k with|some cs=>(match cs[o]?with|some (.sl x _)=>some (.sl x none)|_=>none)|none=>none)|none=>none
def MJ(T:XT)(s:XS)(K:XK):List Cf->Option (List XV)
 |[]=>some []
 |r::l=>match uv T s K r,MJ T s K l with|some a,some b=>some (a::b)|_,_=>none
def tE(σ:Sub)(ch:List (Nat×XV)):XT->XT
 |[]=>[]
 |(i,v)::T=>(i,match lk ch i with|some p=>oD σ p|none=>v)::tE σ ch T
def kZ(σ:Sub)(ch:List (Nat×List XV)):dR->dR
 |[]=>[]
 |(i,v)::T=>(i,match lk ch i with|some p=>gp σ p|none=>v)::kZ σ ch T
def FG(K:XK)(ch:List (Nat×XV)):XT->XT->bk->Option bk
 |[],[],E=>some E
 |(i,v)::T,(j,w)::H,E=>if Nat.beq i j then
  (match lk ch i with
  |some p=>match Bm K p v E with|some E=>FG K ch T H E|none=>none
  |none=>if nP v w then FG K ch T H E else none)
  else none
 |_,_,_=>none
def CJ(K:XK)(ch:List (Nat×List XV)):dR->dR->bk->Option bk
 |[],[],E=>some E
 |(i,v)::T,(j,w)::H,E=>if Nat.beq i j then
  (match lk ch i with
  |some p=>match wB K p v E with|some E=>CJ K ch T H E|none=>none
  |none=>if rY v w then CJ K ch T H E else none)
  else none
 |_,_,_=>none
def dI(o:Option (List Nat×List Nat))(T:XT)(s:XS):XT×XS:=
 match o with
 |some (a,b)=>(lp a T,{s with cur:=lp b s.cur})
 |none=>(T,s)
def qU(U:List (Nat×List (Nat×List XV)))(j:Nat):List (Nat×List XV):=match lk U j with|some l=>l|none=>[]
def mj(σ:Sub)(U:List (Nat×List (Nat×List XV))):List dR->List dR
 |[]=>[]
 |F::S=>kZ σ (qU U S.length) F::mj σ U S
def Jc(K:XK)(U:List (Nat×List (Nat×List XV))):List dR->List dR->bk->Option bk
 |[],[],E=>some E
 |F::S,G::R,E=>if Nat.beq S.length R.length then(match CJ K (qU U S.length) F G E with|some E=>Jc K U S R E|none=>none)else none
 |_,_,_=>none
def Uj(I:Inv)(w:Bool):List Bool:=match I.U with|[]=>[w]|_=>[false,true]
def tq(I:Inv)(a b:Bool):Bool:=match I.U with|[]=>a==b|_=>true
def Iv(C:eL)(K:XK)(E:bk):List (List cq)->Option bk
 |[]=>none
 |l::ls=>match uS C K cF l E with|some E=>some E|none=>Iv C K E ls
def fit(C:eL)(I:Inv)(refs:List XV)(K:XK)(T H:XT)(s h:XS):Option bk:=
 if tq I s.w h.w then
  match FG K I.T T H (some (.int .i64 0 0)::List.replicate I.k none++refs.map some)with
  |some E=>match CJ K I.B s.cur h.cur E with
   |some E=>match Jc K I.U s.up h.up E with
    |some E=>Iv C K E I.fs
    |none=>none
   |none=>none
  |none=>none
 else none
def Yt(K:XK)(A B q h:Nat×Int):Bool:=(K.le q.1 q.2 A.1 A.2&&K.le B.1 (B.2+1) h.1 h.2)||(K.le q.1 (q.2+1) A.1 A.2&&K.le B.1 B.2 h.1 h.2)
def OO:eE->Bool
 |.normal=>true
 |_=>false
def aa4(C:eL)(I:Inv)(h:Option (List Nat×List Nat))(q:XA->Option (List (eE×XA)))(refs:List XV)(σ:Sub)(F:XT)(D:XS)(J:XK)(fs:List cq):Option (List (eE×XA)):=
 let G:=J.facts (fs.map (Eb σ))
 let A:=nR σ I.m.1
 let B:=nR σ I.m.2
 if G.le B.1 B.2 A.1 A.2 then
  match q ⟨F,D,G⟩with
  |none=>none
  |some outs=>
   if outs.all λ o=> !(OO o.1)||
    (match fit C I refs o.2.k (dI h o.2.T o.2.s).1 F (dI h o.2.T o.2.s).2 D with
    |some E=>match E.num I.m.1.1 I.m.1.2,E.num I.m.2.1 I.m.2.2 with
     |some L,some K=>Yt o.2.k A B L K
     |_,_=>false
    |none=>false)
   then some (outs.filter λ o=> !(OO o.1))else none
 else none
def O0(C:eL)(I:Inv)(h:Option (List Nat×List Nat))(q:XA->Option (List (eE×XA)))(a:XA):Option (List (eE×XA)):=
 let A:=(dI h a.T a.s).1
 let s0:=(dI h a.T a.s).2
 match MJ A s0 a.k I.refs with
 |none=>none
 |some refs=>
  match fit C I refs a.k A A s0 s0 with
  |none=>none
  |some _=>
   let rs:=cH (refs.map some) (a.k.nx+I.k)
   let σ:Sub:=.i 0 0::cN I.k a.k.nx++rs.1
   nv (λ w=>nv (aa4 C I h q refs σ (tE σ I.T A) {w:=w,cur:=kZ σ I.B s0.cur,up:=mj σ I.U s0.up} {a.k with nx:=rs.2}) I.fs) (Uj I s0.w)
def atr:XV->Bool
 |.sc _=>true
 |.int _ _ _=>true
 |.bs _=>true
 |.ss _=>true
 |_=>false
def Ac(S:List dR):XV->XV
 |.ms d k len sz=>match AM S d k with
  |some cs=>(match cs.all XV.data,(len*sz==cs.length&&sz==1)with|true,true=>.sx (cs.map λ c=>[mC c]) none|_,_=>.aL [])
  |none=>.aL []
 |v=>mA v
def aih(cl:Nat->List XV->XS->XK->Option (List gP))(s:XS)(K:XK)(ms:Bool)(g:Nat)(args:List XV):Option (List gP):=
 match ms&&args.any XV.open with
 |true=>none
 |false=>match cl g args s K with
  |some h=>(match ms&& !(h.all λ a=>atr a.v)with|true=>none|false=>some h)
  |none=>none
def UG(C:eL)(cl:Nat->List XV->XS->XK->Option (List gP))(T:XT)(s:XS)(K:XK)(dst:Option Tmp):CO->Option (List gP)
 |.mv x=>oB (fC T x) λ v=>tB s K [] .pure (some (mA v))
 |.tk sz x=>oB (fC T x) λ v=>tB s K (aB x) .pure (To sz v)
 |.pk c a b=>oB (fC T c) λ c=>oB (fC T a) λ a=>oB (fC T b) λ b=>oB (JX K c) λ l=>some (l.map λ p=>⟨mA (cond p.1 a b),[],s,.pure,p.2⟩)
 |.bl z q ps=>oB (tu z) λ z=>oB (zi T ps) λ l=>oB (Hc q z (l.map λ p=>(p.1,mA p.2))) λ cs=>tB s K [] .pure (some (.agg cs))
 |.bt z q ps=>oB (tu z) λ z=>oB (zi T ps) λ l=>oB (Hc q z l) λ cs=>tB s K (wY ps) .pure (some (.agg cs))
 |.nl x=>oB (fC T x) λ v=>tB s K [] .pure (ahK v)
 |.bn op _ x y=>oB (fC T x) λ a=>oB (fC T y) λ b=>uO s .pure (PV K op a b)
 |.un op x=>oB (fC T x) λ v=>uO s .pure (Sy K op v)
 |.mn x y=>oB (fC T x) λ a=>oB (fC T y) λ b=>uO s .pure (Qq K a b)
 |.mx x y=>oB (fC T x) λ a=>oB (fC T y) λ b=>uO s .pure (Up K a b)
 |.cv k x=>oB (fC T x) λ v=>tB s K [] .pure (Q8 K k v)
 |.mf f cap=>oB (Av T cap) λ l=>tB s K [] .pure (some (.fn f (l.map mA)))
 |.fa o x=>oB (fC T x) λ v=>tB s K [] .pure (abD o v)
 |.ia sl A x ix=>oB (fC T x) λ a=>oB (fC T ix) λ i=>uO s .pure (TV C K sl A a i)
 |.ex i x=>oB (fC T x) λ v=>tB s K [] .pure (Rl i v)
 |.ln sl t x=>oB (fC T x) λ v=>Mr s .pure (Uk C K sl t v)
 |.ld tk agg n x=>oB (fC T x) λ a=>oB (B1 tk agg n s a) λ r=>some [⟨r.1,[],r.2.2,.read r.2.1,K⟩]
 |.sx sl str x lo hi=>oB (fC T x) λ a=>oB (B6 T lo) λ l=>oB (B6 T hi) λ h=>Mr s (.read none) (QZ C K sl str a l h)
 |.al z=>oB (tu z) λ z=>oB dst λ k=>oB (zM T s k z) λ s'=>some [⟨.ptr s.up.length k 0,[],s',.new true,K⟩]
 |.bx tk x=>oB dst λ k=>oB (fC T x) λ v=>match v.fw with
  |true=>none
  |false=>oB (zM T s k (match tk with|true=>v.cells|false=>(mA v).cells)) λ s'=>some [⟨.ptr s.up.length k 0,(match tk with|true=>aB x|false=>[]),s',.new true,K⟩]
 |.bs sz z n ps=>oB (tu z) λ z=>oB (zi T ps) λ l=>oB (LK sz (List.replicate n z) l) λ es=>some [⟨.sx es (some sz),[],s,.new false,K⟩]
 |.mk z l c=>oB (tu z) λ z=>oB dst λ k=>oB (fC T l) λ a=>oB (fC T c) λ b=>match a,b with
  |.int .i64 0 (.ofNat n),.int .i64 0 (.ofNat m)=>if n=m/\n<=1000 then oB (zM T s k (List.replicate n z).flatten) λ s'=>some [⟨.ms s.up.length k n 1,[],s',.new true,K⟩]else none
  |_,_=>none
 |.st n x v=>oB (fC T x) λ p=>oB (fC T v) λ w=>oB (Uo s n p w) λ r=>some [⟨.aL [],aB v,r.1,.eP (.box r.2.1 r.2.2),K⟩]
 |.cl f args=>oB (fC T f) λ f=>oB (Av T args) λ l=>match f with
  |.fn g cap=>aih cl s K ((l++cap).any XV.fY) g ((l++cap).map (Ac (s.cur::s.up)))
  |_=>none
 |.ap sz x y=>oB (fC T x) λ a=>oB (fC T y) λ b=>oB (Om C K sz a b) λ r=>some [⟨r.1,aB x,s,.eP .clean,r.2⟩]
 |.ix t x i=>oB (fC T x) λ a=>oB (fC T i) λ i=>tB s K [] .pure (UH C t a i)
def Lw(K:XK)(T:XT):Option (Tmp×Bool)->Option (List (Bool×XK))
 |none=>some [(true,K)]
 |some (t,want)=>match xS T t with
  |.sc (.bool b)=>some [(b==want,K)]
  |.un=>some [(false,K)]
  |.bs x=>some ((D8 K x).map λ p=>(p.1==want,p.2))
  |_=>none
def EO(C:eL)(cl:Nat->List XV->XS->XK->Option (List gP))(n:Nat):List CE->XA->Option (List XA)
 |[],a=>some [a]
 |e::l,a=>
  match Lw a.k a.T e.g with
  |none=>none
  |some h=>nv (λ g=>match g.1 with
   |true=>match UG C cl a.T a.s g.2 e.d e.o with
    |some rs=>nv (λ r=>EO C cl n l ⟨s6 n (yi r.src a.T) e.d r.v,r.s,r.k⟩) rs
    |none=>none
   |false=>EO C cl n l ⟨s6 n a.T e.d .un,a.s,g.2⟩) h
def Hm(C:eL)(cl:Nat->List XV->XS->XK->Option (List gP))(n:Nat)(bef:List (List Nat)):List CE->Nat->cR->XA->Option (List (cR×XA))
 |[],_,Z,a=>some [(Z,a)]
 |e::l,i,Z,a=>
  match Lw a.k a.T e.g with
  |none=>none
  |some h=>nv (λ g=>match g.1 with
   |true=>match UG C cl a.T a.s g.2 e.d e.o with
    |some rs=>nv (λ r=>match kT (bef.getD i []) i Z r.e with
     |some q=>Hm C cl n bef l (i+1) q ⟨s6 n (yi r.src a.T) e.d r.v,r.s,r.k⟩
     |none=>none) rs
    |none=>none
   |false=>Hm C cl n bef l (i+1) Z ⟨s6 n a.T e.d .un,a.s,g.2⟩) h
def P5(C:eL)(cl:Nat->List XV->XS->XK->Option (List gP))(n:Nat)(l:List CE)(bef:List (List Nat))(a:XA):Option (List XA):=
 match Hm C cl n bef l 0 ⟨[],[],false,false,[]⟩ a with
 |some rs=>if rs.all λ r=>vu bef r.1.es r.1.rs then some (rs.map (·.2))else none
 |none=>none
def VS(o:Option (List Nat×List Nat))(l:List XA):List (eE×XA):=l.map λ a=>(.normal,⟨(dI o a.T a.s).1,(dI o a.T a.s).2,a.k⟩)
def loops:CC->Nat
 |.seq a b=>loops a+loops b
 |.cond _ a b=>loops a+loops b
 |.block _ a=>loops a
 |.loop _ a=>loops a+1
 |_=>0
def AQ(s0:XS)(op:Bool)(rs:List CR)(o:eE×XA):Option (List gP):=
 match o.1 with
 |.exit _=>none
 |_=>match qc o.2.s o.2.T rs with
  |some l=>(match op with
   |true=>match o.2.s.up with
    |F::S=>some [⟨sw l,[],{w:=s0.w||o.2.s.w,cur:=F,up:=S},.eP (mZ o.2.s.w),o.2.k⟩]
    |[]=>none
   |false=>some [⟨sw l,[],s0,.eP .clean,o.2.k⟩])
  |none=>none
def ot(C:eL):Nat->Nat->Nat->Nat->CC->XA->Option (List (eE×XA))
 |0,_,_,_,_,_=>none
 |m+1,f,n,p,c,a=>
  let cl:Nat->List XV->XS->XK->Option (List gP):=λ g args s K=>
   if C.ok g then
    match C.ct f g with
    |some ct=>Ni C s K g ct args
    |none=>match C.fn g with
     |some F=>
      let op:=args.any XV.open
      let up:=cond op (s.cur::s.up) []
      match ot C m g (args.length+(F.n-args.length)) 0 F.c ⟨oQ 0 args,{w:=false,cur:=[],up:=up},K⟩with
      |some outs=>(match nv (AQ s op F.r) outs with
       |some q=>(match C.sm f g with|some sm=>L8 C sm s K args q|none=>some q)
       |none=>none)
      |none=>none
     |none=>none
   else none
  match c with
  |.skip=>some [(.normal,a)]
  |.ak l out=>match EO C cl n l a with|some r=>some (VS out r)|none=>none
  |.dK l bef out=>match P5 C cl n l bef a with|some r=>some (VS out r)|none=>none
  |.seq x y=>match ot C m f n p x a with
   |some outs=>nv (λ o=>match o.1 with
    |.normal=>ot C m f n (p+loops x) y o.2
    |_=>some [o]) outs
   |none=>none
  |.cond x y z=>match fC a.T x with
   |some v=>match JX a.k v with
    |some bs=>nv (λ b=>match b.1 with
     |true=>ot C m f n p y {a with k:=b.2}
     |false=>ot C m f n (p+loops y) z {a with k:=b.2}) bs
    |none=>none
   |none=>none
  |.block id x=>match ot C m f n p x a with
   |some outs=>some (outs.map λ o=>match o.1 with
    |.exit j=>(if j=id then .normal else .exit j,o.2)
    |e=>(e,o.2))
   |none=>none
  |.loop h x=>match C.inv f p with
   |some I=>O0 C I h (λ a=>ot C m f n (p+1) x a) a
   |none=>match ot C m f n (p+1) x ⟨(dI h a.T a.s).1,(dI h a.T a.s).2,a.k⟩with
    |some outs=>nv (λ o=>match o.1 with
     |.normal=>ot C m f n p (.loop h x) o.2
     |_=>some [o]) outs
    |none=>none
  |.exit id=>some [(.exit id,a)]
  |.ret=>some [(.ret,a)]
def qh:Nat->List Nat->bk
 |_,[]=>[]
 |i,b::l=>some (match b with|0=>.int .i64 i 0|1=>.sl i none|2=>.bs i|_=>.ss i)::qh (i+1) l
def QB(C:eL)(ks:List Nat)(v:XV)(K:XK)(o:Cl):Bool:=
 match Bm K o.res v (some (.int .i64 0 0)::qh 1 ks++List.replicate o.k none)with
 |some E=>(uS C K cF o.post E).isSome
 |none=>false
mutual
def bdX(n:Nat):XV->Bool
 |.int _ x _=>Nat.blt x n
 |.bs x=>Nat.blt x n
 |.ss x=>Nat.blt x n
 |.sl x _=>Nat.blt x n
 |.sx es _=>Iy n es
 |.rp cs _=>vr n cs
 |.fn _ cs=>vr n cs
 |.agg cs=>vr n cs
 |.aL cs=>vr n cs
 |_=>true
def vr(n:Nat):List XV->Bool
 |[]=>true
 |v::l=>bdX n v&&vr n l
def Iy(n:Nat):List (List XV)->Bool
 |[]=>true
 |v::l=>vr n v&&Iy n l
end
def Br(n:Nat):cq->Bool
 |.le a b _=>Nat.blt a n&&Nat.blt b n
 |.sl x m _ _ bs=>Nat.blt x n&&Nat.blt m n&&bs.all λ p=>Nat.blt p.1 n
 |.str x _=>Nat.blt x n
 |.bb x _=>Nat.blt x n
 |.el x i _ cells=>Nat.blt x n&&Nat.blt i n&&vr n cells
 |.sum z a b _=>Nat.blt z n&&Nat.blt a n&&Nat.blt b n
 |.pr _ l=>l.all λ e=>match e with|.i y _=>Nat.blt y n|.s y=>Nat.blt y n
def sG(ct:Ct):XK:=({ls:=[],fs:=[],nx:=ct.ks.length+1}:XK).facts ct.pre
def Kl(ct:Ct):Bool:=vr (ct.ks.length+1) ct.args&&ct.pre.all (Br (ct.ks.length+1))&& !(ct.args.any XV.open)&&match ct.dec with|some (x,c)=>Nat.blt x (ct.ks.length+1)&&(sG ct).le 0 c x 0|none=>true
def keeps(C:eL)(m f:Nat)(F:cZ)(ct:Ct):Bool:=
 Kl ct&&match ot {C with self:=match ct.dec with|some (x,c)=>some (f,x,c)|none=>none} m f (ct.args.length+(F.n-ct.args.length)) 0 F.c ⟨oQ 0 ct.args,{w:=false,cur:=[],up:=[]},sG ct⟩with
 |some outs=>(match nv (AQ {w:=false,cur:=[],up:=[]} false F.r) outs with
  |some rs=>rs.all λ r=>ct.outs.any (QB {C with self:=match ct.dec with|some (x,c)=>some (f,x,c)|none=>none} ct.ks r.v r.k)
  |none=>false)
 |none=>false
section
variable{T:XT}{p:β->Bool}{q:α->Bool}{v:XV}
variable{ρ ρ':bm}
theorem dz:∀l:List XV,aE ρ l=l.map (ev ρ)
 |[]=>rfl
 |v::l=>by rw[aE,dz l];rfl
theorem ly:∀l:List (List XV),cL ρ l=l.map (aE ρ)
 |[]=>rfl
 |v::l=>by rw[cL,ly l];rfl
def bG(ρ:bm)(T:XT):VT:=T.map λ p=>(p.1,ev ρ p.2)
def aP(ρ:bm)(F:dR):bI:=F.map λ p=>(p.1,aE ρ p.2)
def aX(ρ:bm)(s:XS):aq:=⟨s.w,aP ρ s.cur,s.up.map (aP ρ)⟩
def KO(f:α->β)(j:Nat):∀T:List (Nat×α),lk (T.map λ p=>(p.1,f p.2)) j=(lk T j).map f
 |[]=>rfl
 |(i,v)::T=>by
  show(if i=j then some (f v)else lk (T.map λ p=>(p.1,f p.2)) j)=(if i=j then some v else lk T j).map f;by_cases h:i=j;.rw[ao h,ao h];rfl
  rw[aj h,aj h,KO f j T]
def Ku:lk (bG ρ T) j=(lk T j).map (ev ρ):=KO _ _ _
theorem DE{F:dR}:lk (aP ρ F) j=(lk F j).map (aE ρ):=KO _ _ _
def Ef:jK (bG ρ T) i=ev ρ (xS T i):=by unfold jK xS;rw[Ku];cases lk T i<;>rfl
def Uv(v:XV):(ev ρ v).fw=v.fw:=by cases v<;>rfl
def Dk(v:XV):(ev ρ v).cells=v.cells.map (ev ρ):=by cases v<;>first|rfl|(rename_i cs;exact dz cs)
def acA(v:XV):(ev ρ v).cell=v.cell:=by cases v<;>rfl
theorem GW(v:XV):(ev ρ v).data=v.data:=by cases v<;>rfl
def avA(v:XV):(ev ρ v).fY=v.fY:=by cases v<;>rfl
theorem all_map{f:α->β}(h:∀a,p (f a)=q a)(l:List α):(l.map f).all p=l.all q:=by rw[List.all_map];congr 1;funext a;exact h a
theorem any_map{f:α->β}(h:∀a,p (f a)=q a)(l:List α):(l.map f).any p=l.any q:=by rw[List.any_map];congr 1;funext a;exact h a
def aak(v:XV):di (ev ρ v)=ev ρ (mC v):=by cases v<;>rfl
theorem qa(v:XV):bD (ev ρ v)=ev ρ (mA v):=by
 cases v<;>try rfl
 rename_i cs;show ae.agg ((aE ρ cs).map di)=.agg (aE ρ (cs.map mC));rw[dz,dz,ko,ko]
 congr 1
 exact kX λ v _=>aak v
theorem KI(cs:List XV):(cs.map (ev ρ)).map di=(cs.map mC).map (ev ρ):=by rw[ko,ko];exact kX λ v _=>aak v
theorem TY(cs:List XV):(cs.map (ev ρ)).map bD=(cs.map mA).map (ev ρ):=by rw[ko,ko];exact kX λ v _=>qa v
theorem Q1(v:XV):(ev ρ v).open=v.open:=by
 cases v<;>try rfl
 .rename_i f cap;cases cap<;>rfl
 rename_i cs;show(aE ρ cs).any (λ c=> !c.data)=cs.any λ c=> !c.data
 rw[dz];exact any_map (λ a=>by rw[GW]) cs
def UI(F:dR)(k:Nat)(cs:List XV):mN (aP ρ F) k (aE ρ cs)=aP ρ (CH F k cs):=by
 unfold mN CH aP;rw[ko,ko];refine kX λ p _=>?_
 show(if p.1=k then _ else _)=_;by_cases h:p.1=k;.simp only[Function.comp,ao h]
 simp only[Function.comp,aj h]
def RW(d k:Nat):∀S:List dR,b7 (S.map (aP ρ)) d k=(AM S d k).map (aE ρ)
 |[]=>rfl
 |F::S=>by
  show(if d=(S.map (aP ρ)).length then lk (aP ρ F) k else b7 (S.map (aP ρ)) d k)=(if d=S.length then lk F k else AM S d k).map (aE ρ);rw[aF];by_cases h:d=S.length;.rw[ao h,ao h,DE]
  rw[aj h,aj h,RW d k S]
def Oe(d k:Nat)(cs:List XV):∀S:List dR,jv (S.map (aP ρ)) d k (aE ρ cs)=(FK S d k cs).map (aP ρ)
 |[]=>rfl
 |F::S=>by
  show(if d=(S.map (aP ρ)).length then mN (aP ρ F) k (aE ρ cs)::S.map (aP ρ)else aP ρ F::jv (S.map (aP ρ)) d k (aE ρ cs))=(if d=S.length then CH F k cs::S else F::FK S d k cs).map (aP ρ);rw[aF];by_cases h:d=S.length;.rw[ao h,ao h,UI];rfl
  rw[aj h,aj h,Oe d k cs S];rfl
def yA(s:XS):(aX ρ s).up.length=s.up.length:=aF _
def aai(s:XS)(d k:Nat):bE (aX ρ s) d k=(Ci s d k).map (aE ρ):=by
 unfold bE Ci;rw[yA];by_cases h:d=s.up.length;.rw[ao h,ao h];exact DE
 rw[aj h,aj h];exact RW d k s.up
def at4(s:XS)(d k:Nat)(cs:List XV):m9 (aX ρ s) d k (aE ρ cs)=aX ρ (Ty s d k cs):=by
 unfold m9 Ty;rw[yA];by_cases h:d=s.up.length;.rw[ao h,ao h];show aq.mk _ _ _=aq.mk _ _ _;rw[<-UI];rfl
 rw[aj h,aj h];show aq.mk _ _ _=aq.mk _ _ _;rw[<-Oe];rfl
def aqw(s:XS)(d k:Nat)(cs:List XV):oU (aX ρ s) d k (aE ρ cs)=aX ρ (QV s d k cs):=by
 unfold oU QV;rw[yA];by_cases h:d=s.up.length;.rw[ao h,ao h];show aq.mk _ _ _=aq.mk _ _ _;rw[<-UI];rfl
 rw[aj h,aj h];show aq.mk _ _ _=aq.mk _ _ _;rw[<-Oe];rfl
mutual
theorem Y3(d k:Nat):∀v:XV,lr d k (ev ρ v)=Px d k v
 |.sc _=>rfl|.int _ _ _=>rfl|.bs _=>rfl|.ss _=>rfl|.sl _ _=>rfl|.sx _ _=>rfl
 |.ptr _ _ _=>rfl|.rp _ _=>rfl|.ms _ _ _ _=>rfl|.un=>rfl
 |.fn _ cs=>DL d k cs
 |.agg cs=>DL d k cs
 |.aL cs=>DL d k cs
theorem DL(d k:Nat):∀v:List XV,iJ d k (aE ρ v)=vW d k v
 |[]=>rfl
 |v::l=>by rw[aE,iJ,vW,Y3 d k v,DL d k l]
end
def abA(d k:Nat):∀T:XT,sM d k (bG ρ T)=IV d k T
 |[]=>rfl
 |(i,v)::T=>by show(lr d k (ev ρ v)&&sM d k (bG ρ T))=_;rw[Y3,abA d k T];rfl
def ac8(d k:Nat):∀T:dR,tC d k (aP ρ T)=Ll d k T
 |[]=>rfl
 |(i,v)::T=>by show(iJ d k (aE ρ v)&&tC d k (aP ρ T))=_;rw[DL,ac8 d k T];rfl
def asU(k:Nat)(F:dR):lJ k (aP ρ F)=aP ρ (lJ k F):=by unfold lJ aP;rw[List.filter_map];rfl
def Mt(T:XT)(s:XS)(k:Nat)(cs:List XV):gY (bG ρ T) (aX ρ s) k (aE ρ cs)=(zM T s k cs).map (aX ρ):=by
 unfold gY zM;have e:cs.all XV.cell=(aE ρ cs).all ae.cell:=by rw[dz];exact(all_map (λ a=>acA a) cs).symm
 have h:(aX ρ s).cur=aP ρ s.cur:=rfl;rw[yA,abA,h,asU,ac8,DL,<-e];cases (IV s.up.length k T&&Ll s.up.length k (lJ k s.cur)&&vW s.up.length k cs&&cs.all XV.cell)<;>rfl
def ON(cs:List XV)(off:Nat)(new:List XV):cm (cs.map (ev ρ)) off (new.map (ev ρ))=(He cs off new).map (ev ρ):=by unfold cm He;rw[aF,mT,mT,BG,Nz]
def awW(cs:List XV)(off n:Nat):qO (cs.map (ev ρ)) off n=(I5 cs off n).map (List.map (ev ρ)):=by
 unfold qO I5;rw[aF];by_cases h:off+n<=cs.length;.rw[ao h,ao h];simp only[lA,BG,Nz]
 rw[aj h,aj h];rfl
def oJ(ρ:bm)(l:List (Nat×XV)):List (Nat×ae):=l.map λ p=>(p.1,ev ρ p.2)
theorem Va(h:List (Nat×Nat)):∀(l:List (Nat×XV)) (cs:List XV),kY h (cs.map (ev ρ)) (oJ ρ l)=(Hc h cs l).map (List.map (ev ρ))
 |[],cs=>rfl
 |(i,v)::l,cs=>by
  show kY h (cs.map (ev ρ)) ((i,ev ρ v)::oJ ρ l)=_;unfold kY Hc;cases h[i]?;.rfl
  rename_i p;obtain⟨off,size⟩:=p;simp only[Uv,Dk,aF];cases v.fw<;>cases v.cells.length==size<;>cases decide (off+size<=cs.length)<;>try rfl
  simp only[ON];exact Va h l _
def WX(sz:Nat):∀(l:List (Nat×XV)) (es:List (List XV)),mM sz (cL ρ es) (oJ ρ l)=(LK sz es l).map (cL ρ)
 |[],es=>rfl
 |(i,v)::l,es=>by
  show mM sz (cL ρ es) ((i,ev ρ v)::oJ ρ l)=_;unfold mM LK;have e:(v.cells.map (ev ρ)).all ae.data=v.cells.all XV.data:=all_map (λ a=>GW a) _;have h:(cL ρ es).length=es.length:=by rw[ly,aF]
  simp only[Dk,e,h,aF];cases v.cells.all XV.data<;>cases v.cells.length==sz<;>cases decide (i<es.length)<;>try rfl
  simp only;rw[KI,show(cL ρ es).set i ((v.cells.map mC).map (ev ρ))=cL ρ (es.set i (v.cells.map mC)) by rw[ly,ly,aiG,dz]];exact WX sz l _
def CL:∀(l:List Tmp) (T:XT),gZ l (bG ρ T)=bG ρ (yi l T)
 |[],T=>rfl
 |t::l,T=>by
  unfold gZ yi;rw[Ku];cases lk T t;.exact CL l T
  rename_i v;show gZ l ((t,bD (ev ρ v))::bG ρ T)=_;rw[qa];exact CL l ((t,mA v)::T)
def C7(n:Nat)(T:XT)(d:Option Tmp)(v:XV):da n (bG ρ T) d (ev ρ v)=bG ρ (s6 n T d v):=by
 unfold da s6;cases d;.rfl
 rename_i d;by_cases h:d<n;.simp only[ao h];rfl
 simp only[aj h]
def R8{w:XV}(h:To sz v=some w):sR sz (ev ρ v)=ev ρ w:=by
 unfold To at h;split at h;.cases h;rfl
 .cases h
 rename_i D A;cases h;cases v with
 |sl x o=>
  cases o;.exact aeV
  rename_i z;cases z;.exact(A x rfl).elim
  rename_i z;exact adu
 |sx es o=>
  cases es
  .cases o;.rfl
   rename_i z;cases z;.exact(D rfl).elim
   rename_i z;rfl
  rename_i e es;rfl
 |_=>rfl
def adX(f:α->β)(l:List Nat)(T:List (Nat×α)):lp l (T.map λ p=>(p.1,f p.2))=(lp l T).map λ p=>(p.1,f p.2):=by
 induction l with
 |nil=>rfl
 |cons i l h=>
  rw[RS,RS,h,KO];cases lk T i<;>rfl
def Ay(o:Option (List Nat×List Nat))(T:XT)(s:XS):me o (bG ρ T) (aX ρ s)=(bG ρ (dI o T s).1,aX ρ (dI o T s).2):=by
 cases o;.rfl
 rename_i p;obtain⟨a,b⟩:=p;show(lp a (bG ρ T),aq.mk s.w (lp b (aP ρ s.cur)) (s.up.map (aP ρ)))=(bG ρ (lp a T),aq.mk s.w (aP ρ (lp b s.cur)) (s.up.map (aP ρ)));unfold bG aP;rw[adX,adX]
def ahi(h0:ρ 0=SV.z){v:ae}{w:XV}(h:D4 v=some w):ev ρ w=v:=by
 unfold D4 at h;split at h<;>cases h;.show ae.sc (.int _ ((ρ 0).i+_))=_;rw[h0];show ae.sc (.int _ (0+_))=_;rw[xD]
 .rfl
 .rfl
 rfl
def zS(h0:ρ 0=SV.z):∀{v:List ae} {w:List XV},tu v=some w->aE ρ w=v
 |[],w,h=>by cases h;rfl
 |v::l,w,h=>by
  unfold tu at h;split at h;.rename_i a r D A;cases h;rw[aE,ahi h0 D,zS h0 A]
  cases h
def apL(h0:ρ 0=SV.z){v:ae}{w:XV}(h:xv v=some w):ev ρ w=v:=by
 unfold xv at h;split at h
 .split at h;.rename_i l A;cases h;show ae.agg (aE ρ l)=_;rw[zS h0 A]
  cases h
 exact ahi h0 h
variable{gl:aM}
theorem gn(h0:ρ 0=SV.z){x:bu}(h:fC T x=some v):bh gl (bG ρ T) x=some (ev ρ v):=by
 cases x with
 |t i=>cases h;show some _=_;rw[Ef]
 |i n=>cases h;show some (ae.sc (.int .i64 n))=some (.sc (.int .i64 ((ρ 0).i+n)));rw[h0];show _=some (ae.sc (.int .i64 (0+n)));rw[xD]
 |b x=>cases h;rfl
 |v x=>show some x=_;rw[apL h0 h]
 |g n=>cases h
 |f f=>cases h;rfl
def Ru(h0:ρ 0=SV.z):∀{x:List bu} {v:List XV},Av T x=some v->py gl (bG ρ T) x=some (aE ρ v)
 |[],v,h=>by cases h;rfl
 |x::l,v,h=>by
  unfold Av at h;split at h;.rename_i a r D A;cases h;unfold py;rw[gn h0 D,Ru h0 A];rfl
  cases h
def JW(h0:ρ 0=SV.z):∀{x:List (Nat×bu)} {v:List (Nat×XV)},zi T x=some v->lK gl (bG ρ T) x=some (oJ ρ v)
 |[],v,h=>by cases h;rfl
 |(i,x)::l,v,h=>by
  unfold zi at h;split at h;.rename_i a r D A;cases h;unfold lK;rw[gn h0 D,JW h0 A];rfl
  cases h
def abw(h0:ρ 0=SV.z){x:Option bu}{v:Option XV}(h:B6 T x=some v):pZ gl (bG ρ T) x=some (v.map (ev ρ)):=by
 cases x;.cases h;rfl
 rename_i x;unfold B6 at h;simp only at h;cases A:fC T x;.rw[A]at h;cases h
 rename_i a;rw[A]at h;cases h;show(match bh gl (bG ρ T) x with|some a=>some (some a)|none=>none)=_;rw[gn h0 A];rfl
def S9{w:XV}(h:ahK v=some w):wR (ev ρ v)=some (ev ρ w):=by cases v<;>first|(cases h;rfl)|cases h
def SO{o:Nat}{w:XV}(h:abD o v=some w):zz o (ev ρ v)=some (ev ρ w):=by cases v<;>first|(cases h;rfl)|cases h
def ahY(agg:Bool)(n:Nat)(cs:List XV)(off:Nat):jt agg n (aE ρ cs) off=(Dc agg n cs off).map (ev ρ):=by
 unfold jt Dc;rw[dz];cases agg;.exact bM
 simp only[awW];cases I5 cs off n;.rfl
 rename_i l;show some (ae.agg (l.map (ev ρ)))=some (.agg (aE ρ l));rw[dz]
def IZ(tk agg:Bool)(n:Nat)(s:XS)(v:XV){r:XV×Option (Nat×Nat)×XS}(h:B1 tk agg n s v=some r):qk tk agg n (aX ρ s) (ev ρ v)=some (ev ρ r.1,r.2.1,aX ρ r.2.2):=by
 cases v with
 |rp cs off=>
  unfold B1 at h;show(match jt agg n (aE ρ cs) off with|some v=>some (bD v,none,aX ρ s)|none=>none)=_;rw[ahY];simp only at h;cases A:Dc agg n cs off;.rw[A]at h;cases h
  rename_i v;rw[A]at h;cases h;simp only[lA,qa]
 |ptr d k off=>
  unfold B1 at h;simp only at h;unfold qk;show(match bE (aX ρ s) d k with|some cs=>_|none=>none)=_;rw[aai];cases D:Ci s d k;.rw[D]at h;cases h
  rename_i cs;rw[D]at h;simp only[lA,ahY]at h⊢;cases A:Dc agg n cs off;.rw[A]at h;cases h
  rename_i v;rw[A]at h;cases tk;.cases h;simp only[lA,qa]
  cases h;simp only[lA,lz,Ei,true_and];rw[<-aqw];have e:(cond agg (ev ρ v).cells [ev ρ v])=(cond agg v.cells [v]).map (ev ρ):=by cases agg with|false=>rfl|true=>exact Dk v
  rw[e,KI,dz,dz,ON]
 |_=>cases h
def Sw(s:XS)(n:Nat)(x v:XV){r:XS×Nat×Nat}(h:Uo s n x v=some r):wC (aX ρ s) n (ev ρ x) (ev ρ v)=some (aX ρ r.1,r.2.1,r.2.2):=by
 cases x with
 |ptr d k off=>
  unfold Uo at h;simp only at h;unfold wC;show(match bE (aX ρ s) d k with|some cs=>_|none=>none)=_;rw[aai];cases A:Ci s d k;.rw[A]at h;cases h
  rename_i cs;rw[A]at h;have K:(v.cells.map (ev ρ)).all ae.data=v.cells.all XV.data:=all_map (λ a=>GW a) _;have J:(v.cells.map (ev ρ)).all ae.cell=v.cells.all XV.cell:=all_map (λ a=>acA a) _;simp only[lA,Uv,Dk,aF,yA,K,J,dz]at h⊢;split at h;.rename_i G F h3 D;cases h;simp only[G,F,h3,D];rw[ON,<-dz,at4]
  cases h
 |_=>cases h
def Tn{w:XV}(h:Rl i v=some w):sd i (ev ρ v)=some (ev ρ w):=by
 cases v with
 |aL vs=>
  unfold Rl at h;simp only at h;show(match(aE ρ vs)[i]?with|some v=>some (bD v)|none=>none)=_;rw[dz,bM];cases A:vs[i]?;.rw[A]at h;cases h
  rename_i v;rw[A]at h;cases h;simp only[lA,qa]
 |_=>cases h
def agz(v:XV):jw (ev ρ v)=ev ρ (MT v):=by
 cases v<;>try rfl
 .rename_i f cap;cases cap<;>rfl
 rename_i cs;show(match(aE ρ cs).all ae.data with|true=>ae.agg ((aE ρ cs).map di)|false=>.aL [])=ev ρ (match cs.all XV.data with|true=>.agg (cs.map mC)|false=>.aL []);have h:(aE ρ cs).all ae.data=cs.all XV.data:=by rw[dz];exact all_map (λ a=>GW a) _
 rw[h];cases cs.all XV.data;.rfl
 show ae.agg _=.agg _;rw[dz,dz,KI]
theorem DF(l:List XV):lD (aE ρ l)=ev ρ (sw l):=by
 have h:∀l:List XV,(aE ρ l).map (λ v=>bD (jw v))=aE ρ (l.map λ v=>mA (MT v)):=by intro l;rw[dz,dz,ko,ko];exact kX λ v _=>by show bD (jw (ev ρ v))=_;rw[agz,qa];rfl
 match l with
 |[]=>rfl
 |[v]=>exact agz v
 |v::w::l=>show ae.aL _=.aL _;exact dc ae.aL (h (v::w::l))
def CA(s:XS)(T:XT):∀(rs:List CR) {l:List XV},qc s T rs=some l->jC (aX ρ s) (bG ρ T) rs=some (aE ρ l)
 |[],l,h=>by cases h;rfl
 |.t t::rs,l,h=>by
  unfold qc at h;cases A:qc s T rs;.rw[A]at h;cases h
  rename_i r;rw[A]at h;cases h;unfold jC;rw[CA s T rs A,Ef];rfl
 |.c a agg n::rs,l,h=>by
  unfold qc at h;cases D:B1 false agg n s (xS T a);.rw[D]at h;cases h
  rename_i q;cases A:qc s T rs;.rw[D,A]at h;cases h
  rename_i r;rw[D,A]at h;obtain⟨v,b,s'⟩:=q;cases h;unfold jC;rw[CA s T rs A,Ef,IZ false agg n s _ D];rfl
def Dd:∀(l:List XV) (i:Nat),lM i (aE ρ l)=bG ρ (oQ i l)
 |[],i=>rfl
 |v::l,i=>by rw[aE,lM,Dd l (i+1)];rfl
end
section
variable{K:XK}{P:bm->α->Prop}{Z9:List Int}{e:List ae}{j:Int}{v:List XV}
variable{ρ ρ':bm}
def aQ(l:List SV):bm:=λ x=>l.getD x SV.z
def b8(ρ:bm)(p:Nat×Int):Int:=(ρ p.1).i+p.2
def dS(ρ:bm):SE->SV
 |.i y d=>⟨(ρ y).i+d,false,[],[]⟩
 |.s y=>ρ y
def dX(tb:js)(nm:Nat)(Z9:List Int)(j:Int)(e:List ae):Prop:=
 match tb.td nm with
 |none=>False
 |some d=>Z9.length=d.p/\∃env:List SV,env=SV.z::Z9.map (λ n=>⟨n,false,[],[]⟩)++⟨j,false,[],[]⟩::env.drop (d.p+2)/\env.length<=d.k/\e=aE (aQ env) d.cells/\
  ∀f∈d.facts,match f with
   |.le a b c=>(aQ env a).i<=(aQ env b).i+c
   |.sl x n c h bs=>((aQ env x).l.length:Int)=(aQ env n).i+c/\∀(i:Nat) e,(aQ env x).l[i]? =some e->if q:h<nm then dX tb h (bs.map (b8 (aQ env))) i e else False
   |.str x set=>(aQ env x).s∈set
   |.bb x b=>(aQ env x).b=b
   |.el _ _ _ _=>False
   |.sum z a b c=>(aQ env z).i=(aQ env a).i+(aQ env b).i+c
   |.pr k l=>tb.pr k (l.map (dS (aQ env)))
termination_by nm
def dL(tb:js)(ρ:bm):cq->Prop
 |.le a b c=>(ρ a).i<=(ρ b).i+c
 |.sl x n c nm bs=>((ρ x).l.length:Int)=(ρ n).i+c/\∀(i:Nat) e,(ρ x).l[i]? =some e->dX tb nm (bs.map (b8 ρ)) i e
 |.str x set=>(ρ x).s∈set
 |.bb x b=>(ρ x).b=b
 |.el x i c cells=>∃j:Nat,(ρ i).i+c=j/\(ρ x).l[j]? =some (aE ρ cells)
 |.sum z a b c=>(ρ z).i=(ρ a).i+(ρ b).i+c
 |.pr k l=>tb.pr k (l.map (dS ρ))
def MO(tb:js)(ρ:bm):LF->Prop
 |.f f=>dL tb ρ f
 |.len x n c=>((ρ x).l.length:Int)=(ρ n).i+c
def wD(tb:js)(r:sQ):Prop:=∀ρ:bm,ρ 0=SV.z->(∀p∈r.ahf,MO tb ρ p)->dL tb ρ r.xH
def kQ(h:Nat.blt a b=true):a<b:=by rw[Nat.blt_eq]at h;exact h
def cq.low(nm:Nat):cq->Bool
 |.sl _ _ _ h _=>Nat.blt h nm
 |.el _ _ _ _=>false
 |_=>true
def D3:Nat->Int->Int->Sem Value
 |100,a,b=>Op.intBits .and .u64 a b
 |101,a,b=>Op.intBits .or .u64 a b
 |102,a,b=>Op.intBits .andNot .u64 a b
 |_,a,b=>Op.shift .shl .u64 a .i64 b
def AR(tb:js):Prop:=∀(id:Nat) (a b z:Int),100<=id->id<=103->D3 id a b=pure (.int .u64 z)->tb.pr id [⟨a,false,[],[]⟩,⟨b,false,[],[]⟩,⟨z,false,[],[]⟩]
def kI(tb:js):Prop:=(∀nm d,tb.td nm=some d->d.facts.all (cq.low nm)=true/\d.p+2<=d.k)/\(∀k r,r∈tb.rl k->wD tb r)/\AR tb
theorem yP{tb:js}(Y:kI tb){d:vQ}(S:tb.td nm=some d):
 dX tb nm Z9 j e↔Z9.length=d.p/\∃env:List SV,env=SV.z::Z9.map (λ n=>⟨n,false,[],[]⟩)++⟨j,false,[],[]⟩::env.drop (d.p+2)/\env.length<=d.k/\e=aE (aQ env) d.cells/\∀f∈d.facts,dL tb (aQ env) f:=by
 have D:=(Y.1 nm d S).1;rw[ij]at D;rw[dX,S];simp only;constructor
 .rintro⟨M,env,L,h3,J,G⟩
  refine⟨M,env,L,h3,J,λ f q=>?_⟩;have h:=G f q;have F:=D f q;cases f with
  |sl x n c A bs=>
   refine⟨h.1,λ i e N=>?_⟩;grind
  |le a b c=>exact h
  |str x s=>exact h
  |bb x b=>exact h
  |el x i c cells=>exact h.elim
  |sum z a b c=>exact h
  |pr k l=>exact h
 .rintro⟨M,env,L,h3,J,G⟩
  refine⟨M,env,L,h3,J,λ f q=>?_⟩;have h:=G f q;have F:=D f q;cases f with
  |sl x n c A bs=>
   refine⟨h.1,λ i e N=>?_⟩;rw[xB (kQ F)];exact h.2 i e N
  |le a b c=>exact h
  |str x s=>exact h
  |bb x b=>exact h
  |el x i c cells=>cases F
  |sum z a b c=>exact h
  |pr k l=>exact h
def ary{tb:js}(q:kI tb){d:vQ}(A:tb.td nm=some d)(h:dX tb nm Z9 j e):e.length=d.cells.length:=by obtain⟨_,env,_,_,D,_⟩:=(yP q A).1 h;rw[D,dz,aF]
def bY(n:Nat)(ρ ρ':bm):Prop:=∀x,x<n->ρ x=ρ' x
def bY.rfl:bY n ρ ρ:=λ _ _=>Eq.refl _
def bY.trans{ρ'':bm}(h:bY n ρ ρ')(D:bY m ρ' ρ'')(A:n<=m):bY n ρ ρ'':=λ x q=>(h x q).trans (D x (dF q A))
def bY.symm(h:bY n ρ ρ'):bY n ρ' ρ:=λ x q=>(h x q).symm
def bY.mono(h:bY m ρ ρ')(A:n<=m):bY n ρ ρ':=λ x q=>h x (dF q A)
def bg(n:Nat)(v:XV):Prop:=∀ρ ρ',bY n ρ ρ'->ev ρ v=ev ρ' v
def dk(n:Nat)(v:List XV):Prop:=∀ρ ρ',bY n ρ ρ'->aE ρ v=aE ρ' v
def jW(n:Nat)(T:XT):Prop:=∀ρ ρ',bY n ρ ρ'->bG ρ T=bG ρ' T
def kB(n:Nat)(s:XS):Prop:=∀ρ ρ',bY n ρ ρ'->aX ρ s=aX ρ' s
def dk.amu(q:n<=m)(h:dk n v):dk m v:=λ _ _ k=>h _ _ (k.mono q)
def tL(n:Nat):SE->Prop
 |.i y _=>y<n
 |.s y=>y<n
def tL.mono(q:n<=m){e:SE}(h:tL n e):tL m e:=by cases e<;>exact dF h q
def tL.nh(q:bY n ρ ρ'){e:SE}(h:tL n e):dS ρ e=dS ρ' e:=by
 cases e with
 |i y d=>show SV.mk _ _ _ _=SV.mk _ _ _ _;rw[q y h]
 |s y=>exact q y h
def cq.bd(n:Nat):cq->Prop
 |.le a b _=>a<n/\b<n
 |.sl x m _ _ bs=>x<n/\m<n/\∀p∈bs,p.1<n
 |.str x _=>x<n
 |.bb x _=>x<n
 |.el x i _ cells=>x<n/\i<n/\dk n cells
 |.sum z a b _=>z<n/\a<n/\b<n
 |.pr _ l=>∀e∈l,tL n e
def cq.avb(q:n<=m){f:cq}(h:f.bd n):f.bd m:=by
 cases f with
 |le a b c=>exact⟨dF h.1 q,dF h.2 q⟩
 |sl x k c nm bs=>exact⟨dF h.1 q,dF h.2.1 q,λ p A=>dF (h.2.2 p A) q⟩
 |str x s=>exact dF h q
 |bb x b=>exact dF h q
 |el x i c cells=>exact⟨dF h.1 q,dF h.2.1 q,h.2.2.amu q⟩
 |sum z a b c=>exact⟨dF h.1 q,dF h.2.1 q,dF h.2.2 q⟩
 |pr k l=>exact λ e D=>(h e D).mono q
def Hw(h:bY n ρ ρ'){p:Nat×Int}(q:p.1<n):b8 ρ p=b8 ρ' p:=by unfold b8;rw[h _ q]
theorem uN(h:bY n ρ ρ'){bs:List (Nat×Int)}(A:∀p∈bs,p.1<n):bs.map (b8 ρ)=bs.map (b8 ρ'):=kX λ p q=>Hw h (A p q)
variable{tb:js}
def azI(h:bY n ρ ρ'){f:cq}(q:f.bd n)(A:dL tb ρ f):dL tb ρ' f:=by
 cases f with
 |le a b c=>show(ρ' a).i<=(ρ' b).i+c;rw[<-h a q.1,<-h b q.2];exact A
 |sl x k c nm bs=>
  show((ρ' x).l.length:Int)=(ρ' k).i+c/\∀(i:Nat) e,(ρ' x).l[i]? =some e->dX tb nm (bs.map (b8 ρ')) i e;rw[<-h x q.1,<-h k q.2.1,<-uN h q.2.2];exact A
 |str x s=>show(ρ' x).s∈s;rw[<-h x q];exact A
 |bb x b=>show(ρ' x).b=b;rw[<-h x q];exact A
 |el x i c cells=>show∃j:Nat,(ρ' i).i+c=j/\(ρ' x).l[j]? =some (aE ρ' cells);rw[<-h x q.1,<-h i q.2.1,<-q.2.2 _ _ h];exact A
 |sum z a b c=>show(ρ' z).i=(ρ' a).i+(ρ' b).i+c;rw[<-h z q.1,<-h a q.2.1,<-h b q.2.2];exact A
 |pr k l=>
  show tb.pr k (l.map (dS ρ'));rw[kX λ e D=>((q e D).nh h).symm];exact A
def bg.mono(q:n<=m){v:XV}(h:bg n v):bg m v:=λ _ _ k=>h _ _ (k.mono q)
def dk.mono(q:n<=m)(h:dk n v):dk m v:=λ _ _ k=>h _ _ (k.mono q)
def jW.mono(q:n<=m){v:XT}(h:jW n v):jW m v:=λ _ _ k=>h _ _ (k.mono q)
def kB.mono(q:n<=m){v:XS}(h:kB n v):kB m v:=λ _ _ k=>h _ _ (k.mono q)
theorem LO{x:Nat}{ρ:bm}{v:SV}(q:¬x<n):bY n ρ (λ y=>if y=x then v else ρ y):=λ y h=>by grind
def bg.int{x:Nat}{c:Int}(h:bg n (.int k x c)):x<n:=by
 refine Ic λ q=>?_
 have:=h (λ _=>SV.z) _ (LO (v:=⟨1,false,[],[]⟩) q);simp[ev,SV.z]at this;omega
def bg.sl{x:Nat}(h:bg n (.sl x o)):x<n:=by
 refine Ic λ q=>?_
 have:=h (λ _=>SV.z) _ (LO (v:=⟨1,false,[],[[]]⟩) q);simp[ev,SV.z]at this
def bg.bs{x:Nat}(h:bg n (.bs x)):x<n:=by
 refine Ic λ q=>?_
 have:=h (λ _=>SV.z) _ (LO (v:=⟨1,true,[],[[]]⟩) q);simp[ev,SV.z]at this
def bg.ss{x:Nat}(h:bg n (.ss x)):x<n:=by
 refine Ic λ q=>?_
 have:=h (λ _=>SV.z) _ (LO (v:=⟨1,true,[1],[[]]⟩) q);simp[ev,SV.z]at this
theorem eD{x:Nat}{c:Int}(h:x<n):bg n (.int k x c):=λ ρ ρ' a=>by unfold ev;rw[a x h]
def sP{x:Nat}(h:x<n):bg n (.sl x o):=λ ρ ρ' a=>by unfold ev;rw[a x h]
def FL{x:Nat}(h:x<n):bg n (.bs x):=λ ρ ρ' a=>by unfold ev;rw[a x h]
def Nd{x:Nat}(h:x<n):bg n (.ss x):=λ ρ ρ' a=>by unfold ev;rw[a x h]
def vF{a:aa}:bg n (.sc a):=λ ρ ρ' a=>by unfold ev;rfl
structure bw (tb:js) (ρ:bm) (K:XK):Prop where
 z:ρ 0=SV.z
 ls:∀f∈K.ls,(ρ f.1).i<=(ρ f.2.1).i+f.2.2
 fs:∀f∈K.fs,dL tb ρ f
structure cB (K:XK):Prop where
 z:0<K.nx
 ls:∀f∈K.ls,f.1<K.nx/\f.2.1<K.nx
 fs:∀f∈K.fs,f.bd K.nx
def bw.nh(h:bw tb ρ K)(A:cB K)(D:bY K.nx ρ ρ'):bw tb ρ' K where
 z:=by rw[<-D 0 A.z];exact h.z
 ls:=λ f q=>by rw[<-D _ (A.ls f q).1,<-D _ (A.ls f q).2];exact h.ls f q
 fs:=λ f q=>azI D (A.fs f q) (h.fs f q)
def GY{a:Int}(h:Bj a=true):0<=a:=by
 unfold Bj at h;split at h;.exact Int.natCast_nonneg _
 cases h
def Wr{ls:List (Nat×Nat×Int)}(q:∀f∈ls,(ρ f.1).i<=(ρ f.2.1).i+f.2.2):∀{m a b:Nat} {c:Int},Ff ls m a b c=true->(ρ a).i<=(ρ b).i+c
 |0,a,b,c,h=>by unfold Ff at h;rw[aR]at h;have:=cU h.1;subst this;have:=GY h.2;omega
 |m+1,a,b,c,h=>by
  unfold Ff at h;rw[nZ]at h;rcases h with h|h
  .rw[aR]at h;have:=cU h.1;subst this;have:=GY h.2;omega
  rw[NA]at h;obtain⟨f,A,h⟩:=h;rw[aR]at h;have e:=cU h.1;have D:=q f A;have F:=Wr q h.2;rw[e]at D;omega
def dr(h:bw tb ρ K){c:Int}(q:K.le a c b d=true):(ρ a).i+c<=(ρ b).i+d:=by have:=Wr h.ls q;omega
theorem gL(h:bw tb ρ K){c:Int}(A:(ρ a).i+c<=(ρ b).i+d):bw tb ρ (K.add a c b d)where
 z:=h.z
 ls:=λ f q=>by
  rcases ck.1 q with rfl|q
  .grind
  exact h.ls f q
 fs:=h.fs
def iC(h:cB K){c:Int}(D:a<K.nx)(A:b<K.nx):cB (K.add a c b d)where
 z:=h.z
 ls:=λ f q=>by
  rcases ck.1 q with rfl|q
  .exact⟨D,A⟩
  exact h.ls f q
 fs:=h.fs
def xk(h:bw tb ρ K){f:cq}(A:dL tb ρ f):bw tb ρ (K.fact f):=by
 cases f with
 |le a b c=>
  exact⟨h.z,λ g q=>by
   rcases ck.1 q with rfl|q
   .exact A
   exact h.ls g q,h.fs⟩
 |_=>
  exact⟨h.z,h.ls,λ g q=>by
   rcases ck.1 q with rfl|q
   .exact A
   exact h.fs g q⟩
theorem pM{f:cq}:(K.fact f).nx=K.nx:=by cases f<;>rfl
def wF(h:cB K){f:cq}(A:f.bd K.nx):cB (K.fact f):=by
 cases f with
 |le a b c=>
  exact⟨h.z,λ g q=>by
   rcases ck.1 q with rfl|q
   .exact A
   exact h.ls g q,h.fs⟩
 |_=>
  exact⟨h.z,h.ls,λ g q=>by
   rcases ck.1 q with rfl|q
   .exact A
   exact h.fs g q⟩
theorem Dq:∀{l:List cq} {K:XK},bw tb ρ K->(∀f∈l,dL tb ρ f)->bw tb ρ (K.facts l)
 |[],K,h,_=>h
 |f::l,K,h,q=>by show bw tb ρ ((K.fact f).facts l);exact Dq (xk h (q f cS)) λ g A=>q g (cz _ A)
theorem rX:∀{l:List cq} {K:XK},(K.facts l).nx=K.nx
 |[],K=>rfl
 |f::l,K=>(rX (l:=l)).trans pM
theorem E6:∀{l:List cq} {K:XK},cB K->(∀f∈l,f.bd K.nx)->cB (K.facts l)
 |[],K,h,_=>h
 |f::l,K,h,q=>by show cB ((K.fact f).facts l);exact E6 (wF h (q f cS)) λ g A=>by grind[pM]
def Mb(h:cB K)(q:K.nx<=n):cB {K with nx:=n}where
 z:=dF h.z q
 ls:=λ f A=>⟨dF (h.ls f A).1 q,dF (h.ls f A).2 q⟩
 fs:=λ f A=>cq.avb q (h.fs f A)
theorem KL(h:bw tb ρ K)(n:Nat):bw tb ρ {K with nx:=n}:=⟨h.z,h.ls,h.fs⟩
def oH(h:cB K):cB K.new:=Mb h (jl _)
def pa(h:bw tb ρ K):bw tb ρ K.new:=KL h _
def gu{α:Type}(tb:js)(ρ:bm)(K:XK)(B:Nat->α->Prop)(P:bm->α->Prop)(l:List (α×XK)):Prop:=(∀r∈l,K.nx<=r.2.nx/\cB r.2/\B r.2.nx r.1)/\∃r∈l,∃ρ',bY K.nx ρ ρ'/\bw tb ρ' r.2/\P ρ' r.1
theorem qH{q:XK}{a:α}(J:K.nx<=q.nx)(L:cB q)(h:B q.nx a)(F:bY K.nx ρ ρ')(D:bw tb ρ' q)(A:P ρ' a):gu tb ρ K B P [(a,q)]:=⟨λ r G=>by grind,_,dp.2 rfl,ρ',F,D,A⟩
theorem iI{a:α}(D:cB K)(h:B K.nx a)(A:bw tb ρ K)(q:P ρ a):gu tb ρ K B P [(a,K)]:=qH (be _) D h .rfl A q
theorem Hq{A q:XK}{a b:α}(n1:A.nx=K.nx)(D:q.nx=K.nx)(b1:cB A)(b2:cB q)(J:B K.nx a)(G:B K.nx b)
 (h:(bw tb ρ A/\P ρ a)\/(bw tb ρ q/\P ρ b)):gu tb ρ K B P [(a,A),(b,q)]:=by
 refine⟨λ r F=>?_,?_⟩;.grind
 .rcases h with⟨k,p⟩|⟨k,p⟩
  .exact⟨_,cS,ρ,.rfl,k,p⟩
  exact⟨_,cz _ (dp.2 rfl),ρ,.rfl,k,p⟩
theorem gu.map{D:Nat->β->Prop}{A:bm->β->Prop}{l:List (α×XK)}(f:α->β)(h:gu tb ρ K B P l)(N:∀n a,B n a->D n (f a))(G:∀ρ' a,P ρ' a->A ρ' (f a)):
 gu tb ρ K D A (l.map λ p=>(f p.1,p.2)):=by
 obtain⟨S,r,F,ρ',L,h3,J⟩:=h;refine⟨λ q M=>?_,(f r.1,r.2),eK.2 ⟨r,F,rfl⟩,ρ',L,h3,G _ _ J⟩;grind
abbrev yU{α:Type}:Nat->α->Prop:=λ _ _=>True
theorem CV(D:cB K)(A:bw tb ρ K){c:Int}(F:a<K.nx)(q:b<K.nx):gu tb ρ K yU (λ _ x=>x=decide ((ρ a).i+c<(ρ b).i+d)) (xG K a c b d):=by
 unfold xG;split;.rename_i h;have:=dr A h;grind[iI]
 split;.rename_i h;have:=dr A h;grind[iI]
 refine Hq rfl rfl (iC D F q) (iC D q F) trivial trivial ?_;grind[gL]
theorem acp(D:cB K)(A:bw tb ρ K){c:Int}(F:a<K.nx)(q:b<K.nx):gu tb ρ K yU (λ _ x=>x=decide ((ρ a).i+c=(ρ b).i+d)) (MW K a c b d):=by
 unfold MW;split;.rename_i h;have:=dr A h;grind[iI]
 split;.rename_i h;have:=dr A h;grind[iI]
 have b1:cB ((K.add a c b d).add b d a c):=iC (iC D F q) q F;simp only;split;.rename_i h;rw[aR]at h;have G:=dr A h.1;have J:=dr A h.2;grind[iI]
 split;.rename_i h;have G:=dr A h;refine Hq rfl rfl b1 (iC D F q) trivial trivial ?_;grind[gL]
 split;.rename_i h;have G:=dr A h;refine Hq rfl rfl b1 (iC D q F) trivial trivial ?_;grind[gL]
 refine Hq rfl rfl b1 D trivial trivial ?_;grind[gL]
theorem DC(D:bw tb ρ K){x:Nat}{c:Int}(h:ub K x=some c):(ρ x).i<=c:=by
 unfold ub at h;split at h;.rename_i e;cases h;have:=cU e;subst this;rw[D.z];exact Int.le_refl _
 have F:∀(l:List (Nat×Nat×Int)) (r:Option Int),(∀f∈l,(ρ f.1).i<=(ρ f.2.1).i+f.2.2)->(∀c,r=some c->(ρ x).i<=c)->∀c,l.foldl (λ r f=>match Nat.beq f.1 x&&Nat.beq f.2.1 0 with|true=>(match r with|some c=>some (min c f.2.2)|none=>some f.2.2)|false=>r) r=some c->(ρ x).i<=c:=by
  intro l;induction l with
  |nil=>intro r _ A c h;exact A c h
  |cons f l J=>
   intro r G A c h;rw[Vj]at h;refine J _ (λ g L=>G g (cz _ L)) (λ N q=>?_) c h;split at q;.rename_i e;rw[aR]at e;have M:=G f cS;rw[cU e.1,cU e.2,D.z]at M;grind[SV.z]
   exact A N q
 exact F K.ls none D.ls (λ c h=>by cases h) c h
theorem Te(D:bw tb ρ K){x:Nat}{c:Int}(h:lb K x=some c):c<=(ρ x).i:=by
 unfold lb at h;split at h;.rename_i e;cases h;have:=cU e;subst this;rw[D.z];exact Int.le_refl _
 have F:∀(l:List (Nat×Nat×Int)) (r:Option Int),(∀f∈l,(ρ f.1).i<=(ρ f.2.1).i+f.2.2)->(∀c,r=some c->c<=(ρ x).i)->∀c,l.foldl (λ r f=>match Nat.beq f.1 0&&Nat.beq f.2.1 x with|true=>(match r with|some c=>some (max c (-f.2.2))|none=>some (-f.2.2))|false=>r) r=some c->c<=(ρ x).i:=by
  intro l;induction l with
  |nil=>intro r _ A c h;exact A c h
  |cons f l L=>
   intro r G A c h;rw[Vj]at h;refine L _ (λ g M=>G g (cz _ M)) (λ S q=>?_) c h;split at q
   .rename_i e;rw[aR]at e;have J:=G f cS;rw[cU e.1,cU e.2,D.z]at J;have N: -f.2.2<=(ρ x).i:=by have:(0:Int)<=(ρ x).i+f.2.2:=J;omega
    grind
   exact A S q
 exact F K.ls none D.ls (λ c h=>by cases h) c h
end
section
variable{K:XK}{k':IntKind}{l:List (XV×XK)}{n:Int}{o:Option Int}{v y:XV}
variable{ρ ρ':bm}{tb:js}{P:Program}
def gu.bL{b:Bool}{l:List (Bool×XK)}(h:gu tb ρ K yU (λ _ x=>x=b) l):gu tb ρ K bg (λ ρ' v=>ev ρ' v=.sc (.bool b)) (bL l):=h.map (λ x=>XV.sc (.bool x)) (λ n a _=>vF) λ ρ' a q=>by subst q;rfl
def gu.yF{b:Bool}{l:List (Bool×XK)}(h:gu tb ρ K yU (λ _ x=>x=b) l):gu tb ρ K yU (λ _ x=>x= !b) (yF l):=h.map (λ x=> !x) (λ n a _=>trivial) λ ρ' a q=>by subst q;rfl
def nV(ρ:bm)(x:Nat)(n:Int):bm:=λ y=>if y=x then⟨n,false,[],[]⟩else ρ y
def uF{x:Nat}:bY x ρ (nV ρ x n):=λ y h=>by show _=if y=x then _ else _;rw[aj (by omega)]
def vo{x:Nat}:(nV ρ x n x).i=n:=by show(if x=x then _ else _:SV).i=_;rw[ao rfl]
theorem xc{f:Int->Nat×Int×Nat×Int}:(rR K o f).nx=K.nx:=by cases o<;>rfl
def wX(h:cB K){f:Int->Nat×Int×Nat×Int}(q:∀n,(f n).1<K.nx/\(f n).2.2.1<K.nx):cB (rR K o f):=by
 cases o;.exact h
 rename_i n;exact iC h (q n).1 (q n).2
def wA(h:bw tb ρ K){f:Int->Nat×Int×Nat×Int}(q:∀n,o=some n->(ρ (f n).1).i+(f n).2.1<=(ρ (f n).2.2.1).i+(f n).2.2.2):bw tb ρ (rR K o f):=by
 cases o;.exact h
 rename_i n;exact gL h (q n rfl)
def akc(k:IntKind):DN k<=0:=by cases k<;>decide
theorem Nh(h0:DN k<=n)(h:n<=Bi k):k.wrap n=n:=by
 cases k<;>simp only[DN,Bi]at h0 h<;>try omega
 .exact Ap ⟨h0,by omega⟩
 .have e:IntKind.wrap .u8 n=n%256:=rfl;rw[e];omega
 have e:IntKind.wrap .u64 n=n%18446744073709551616:=rfl;rw[e];omega
def agC{a b:Int}(h:iO (a-b)):dn P .sub t (eI a) (eI b)=some (eI (a-b)):=by rw[nw];show some (ae.sc (.int .i64 (IntKind.wrap .i64 (a-b))))=_;rw[Ap h]
def av6{a b:Int}(q:b≠0):dn P .rem t (.sc (.int k a)) (.sc (.int k b))=some (.sc (.int k (a.tmod b))):=by have e:Go.binOp .rem t (.int k a) (.int k b)=(if k≠k then(stuck "BinOp: operands of different kinds":Sem Value)else Op.intDiv .rem k a b):=rfl;rw[nw];show(match qo (Go.binOp .rem t (.int k a) (.int k b))with|some r=>kx r|none=>none)=_;rw[e,aj (λ h=>h rfl)];unfold Op.intDiv;rw[aj q];rfl
def aob{a b:Int}(q:b≠0)(h0:DN k<=a.tdiv b)(A:a.tdiv b<=Bi k):dn P .quo t (.sc (.int k a)) (.sc (.int k b))=some (.sc (.int k (a.tdiv b))):=by have e:Go.binOp .quo t (.int k a) (.int k b)=(if k≠k then(stuck "BinOp: operands of different kinds":Sem Value)else Op.intDiv .quo k a b):=rfl;rw[nw];show(match qo (Go.binOp .quo t (.int k a) (.int k b))with|some r=>kx r|none=>none)=_;rw[e,aj (λ h=>h rfl)];unfold Op.intDiv;rw[aj q];show(match some (aa.int k (k.wrap (a.tdiv b)))with|some r=>kx r|none=>none)=_;rw[Nh h0 A];rfl
abbrev vS(P:Program)(op:BinOp)(t:TypeId)(x y:ae):bm->XV->Prop:=λ ρ' v=>dn P op t x y=some (ev ρ' v)
def auE{a:Int}:dn P .shr t (.sc (.int k a)) (.sc (.int k 1))=some (.sc (.int k (a.fdiv 2))):=by
 rw[nw];show(match qo (Op.shift .shr k a k 1)with|some r=>kx r|none=>none)=_;unfold Op.shift;rw[aj (by omega)];have:min (1:Int).toNat k.bits=1:=by cases k<;>rfl
 rw[this];rfl
theorem ajJ(S:cB K)(A:bw tb ρ K){t:TypeId}{k:IntKind}{a b:Nat}{c:Int}(ha:a<K.nx)(ac:b<K.nx)(h:Q6 K op k a c b d=some l):
 gu tb ρ K bg (vS P op t (.sc (.int k ((ρ a).i+c))) (.sc (.int k ((ρ b).i+d)))) l:=by
 have hz:(ρ 0).i=0:=by rw[A.z];rfl
 unfold Q6 at h;split at h
 ·
  split at h
  .split at h
   .rename_i F;rw[aR,aR,aR]at F;obtain⟨⟨⟨J,M⟩,h3⟩,Y⟩:=F;have J:=dr A J;have M:=dr A M;have h3:=dr A h3;have Y:=dr A Y;unfold big at J M h3 Y;rw[hz]at J M h3 Y;have ab:dn P .add t (.sc (.int .i64 ((ρ a).i+c))) (.sc (.int .i64 ((ρ b).i+d)))=some (.sc (.int .i64 ((ρ a).i+c+((ρ b).i+d)))):=Fg (by unfold iO;omega);split at h;.rename_i e;have e:=cU e;subst e;cases h;refine iI S (eD ha) A ?_;show dn _ _ _ _ _=some (ae.sc (.int .i64 ((ρ a).i+(c+d))));rw[ab,hz];congr 3;omega
    split at h;.rename_i e;have e:=cU e;subst e;cases h;refine iI S (eD ac) A ?_;show dn _ _ _ _ _=some (ae.sc (.int .i64 ((ρ b).i+(c+d))));rw[ab,hz];congr 3;omega
    cases h
    let ρ2:=nV ρ K.nx ((ρ a).i+c+((ρ b).i+d))
    have q:(ρ2 K.nx).i=(ρ a).i+c+((ρ b).i+d):=vo;have D:bY K.nx ρ ρ2:=uF;have ea:ρ2 a=ρ a:=(D a ha).symm;have eb:ρ2 b=ρ b:=(D b ac).symm;have N:bw tb ρ2 K:=A.nh S D;have L:K.nx<K.new.nx:=iW _;have aa:a<K.new.nx:=iq ha;have af:b<K.new.nx:=iq ac;refine qH (ρ':=ρ2) ?_ ?_ (eD ?_) D ?_ ?_;.grind[pM,xc]
    .refine wF ?_ ?_;.refine wX (wX (wX (wX (oH S) ?_) ?_) ?_) ?_<;>(intro n;simp only[xc];exact⟨by assumption,by assumption⟩)
     simp only[xc];exact⟨L,aa,af⟩
    .grind[pM,xc]
    .refine xk ?_ (show(ρ2 K.nx).i=(ρ2 a).i+(ρ2 b).i+(c+d) by rw[q,ea,eb];omega);refine wA (wA (wA (wA (pa N) ?_) ?_) ?_) ?_;.intro n G;have:=DC A G;simp only[q,ea];omega
     .intro n G;have:=Te A G;simp only[q,ea];omega
     .intro n G;have:=DC A G;simp only[q,eb];omega
     intro n G;have:=Te A G;simp only[q,eb];omega
    show dn _ _ _ _ _=some (ae.sc (.int .i64 ((ρ2 K.nx).i+0)));grind
   cases h
  cases h
 ·
  split at h
  .split at h
   .rename_i F;rw[aR,aR,aR]at F;obtain⟨⟨⟨J,M⟩,h3⟩,Y⟩:=F;have J:=dr A J;have M:=dr A M;have h3:=dr A h3;have Y:=dr A Y;unfold big at J M h3 Y;rw[hz]at J M h3 Y;have ab:dn P .sub t (.sc (.int .i64 ((ρ a).i+c))) (.sc (.int .i64 ((ρ b).i+d)))=some (.sc (.int .i64 ((ρ a).i+c-((ρ b).i+d)))):=agC (by unfold iO;omega);split at h;.rename_i e;have e:=cU e;subst e;cases h;refine iI S (eD ha) A ?_;show dn _ _ _ _ _=some (ae.sc (.int .i64 ((ρ a).i+(c-d))));rw[ab,hz];congr 3;omega
    split at h;.rename_i e;have e:=cU e;subst e;cases h;refine iI S (eD S.z) A ?_;show dn _ _ _ _ _=some (ae.sc (.int .i64 ((ρ 0).i+(c-d))));rw[ab,hz];congr 3;omega
    cases h
    let ρ2:=nV ρ K.nx ((ρ a).i+c-((ρ b).i+d))
    have q:(ρ2 K.nx).i=(ρ a).i+c-((ρ b).i+d):=vo;have D:bY K.nx ρ ρ2:=uF;have ea:ρ2 a=ρ a:=(D a ha).symm;have eb:ρ2 b=ρ b:=(D b ac).symm;have e0:(ρ2 0).i=0:=by rw[<-D 0 S.z];exact hz
    have N:bw tb ρ2 K:=A.nh S D;have L:K.nx<K.new.nx:=iW _;have aa:a<K.new.nx:=iq ha;have af:b<K.new.nx:=iq ac;have ai:0<K.new.nx:=BH _;refine qH (ρ':=ρ2) ?_ ?_ (eD ?_) D ?_ ?_;.grind[xc]
    .refine wX (wX (wX (wX (oH S) ?_) ?_) ?_) ?_<;>(intro n;simp only[xc];exact⟨by assumption,by assumption⟩)
    .simp only[xc];exact L
    .refine wA (wA (wA (wA (pa N) ?_) ?_) ?_) ?_;.intro n G;have:=Te A G;simp only[q,ea];omega
     .intro n G;have:=DC A G;simp only[q,ea];omega
     .intro n G;cases F:K.le b d a c;.rw[F]at G;cases G
      rw[F]at G;cases G;have:=dr A F;simp only[q,e0];omega
     intro n G;cases F:K.le b (d+1) a c;.rw[F]at G;cases G
     rw[F]at G;cases G;have:=dr A F;simp only[q,e0];omega
    show dn _ _ _ _ _=some (ae.sc (.int .i64 ((ρ2 K.nx).i+0)));grind
   cases h
  .split at h
   .rename_i F;rw[aR,aR,aR]at F;obtain⟨⟨⟨J,M⟩,h3⟩,Y⟩:=F;have J:=cU J;subst J;have M:=GY M;have h3:=dr A h3;have Y:=dr A Y;rw[hz]at h3 Y;cases h;refine iI S (eD ha) A ?_;show dn P .sub t _ _=some (ae.sc (.int .u64 ((ρ a).i+(c-d))));rw[nw];show some (ae.sc (.int .u64 (IntKind.wrap .u64 ((ρ a).i+c-((ρ 0).i+d)))))=_;rw[hz,Nh (k:=.u64) (by show(0:Int)<=_;omega) (by show _<=(18446744073709551615:Int);omega)]
    congr 3;omega
   cases h
  cases h
 ·
  split at h
  .rename_i F;rw[aR]at F;have J:=dr A F.1;have M:=dr A F.2;rw[hz]at J M;cases h;have e:=av6 (P:=P) (t:=t) (k:=k) (a:=(ρ a).i+c) (b:=(ρ b).i+d) (by omega);have r0:0<=((ρ a).i+c).tmod ((ρ b).i+d):=Int.tmod_nonneg _ (by omega);have r1:((ρ a).i+c).tmod ((ρ b).i+d)<(ρ b).i+d:=Int.tmod_lt_of_pos _ (by omega);have r2:((ρ a).i+c).tmod ((ρ b).i+d)<=(ρ a).i+c:=by rw[Int.tmod_eq_emod_of_nonneg (by omega)];have e1:=Int.emod_add_mul_ediv ((ρ a).i+c) ((ρ b).i+d);have e2:=Int.mul_nonneg (show 0<=(ρ b).i+d by omega) (Int.ediv_nonneg (show 0<=(ρ a).i+c by omega) (show 0<=(ρ b).i+d by omega));omega
   let ρ2:=nV ρ K.nx (((ρ a).i+c).tmod ((ρ b).i+d))
   have q:(ρ2 K.nx).i=((ρ a).i+c).tmod ((ρ b).i+d):=vo;have D:bY K.nx ρ ρ2:=uF;have ea:ρ2 a=ρ a:=(D a ha).symm;have eb:ρ2 b=ρ b:=(D b ac).symm;have e0:(ρ2 0).i=0:=by rw[<-D 0 S.z];exact hz
   have N:bw tb ρ2 K:=A.nh S D;have L:K.nx<K.new.nx:=iW _;have aa:a<K.new.nx:=iq ha;have af:b<K.new.nx:=iq ac;refine qH (ρ':=ρ2) (jl _) (iC (iC (iC (oH S) (BH _) L) L af) L aa) (eD L) D (gL (gL (gL (pa N) ?_) ?_) ?_) ?_;.rw[q,e0];omega
   .rw[q,eb];omega
   .rw[q,ea];omega
   show dn _ _ _ _ _=some (ae.sc (.int k ((ρ2 K.nx).i+0)));rw[e,q];congr 3;omega
  cases h
 ·
  split at h
  .rename_i F;rw[aR,aR,aR]at F;obtain⟨⟨⟨J,M⟩,h3⟩,Y⟩:=F;have J:=dr A J;have M:=dr A M;have h3:=cU h3;subst h3;have Y:=GY Y;rw[hz]at J M;cases h;have q0:0<=((ρ a).i+c).tdiv ((ρ 0).i+d):=Int.tdiv_nonneg (by omega) (by omega);have q1:((ρ a).i+c).tdiv ((ρ 0).i+d)<=(ρ a).i+c:=Int.tdiv_le_self _ (by omega);have e:=aob (P:=P) (t:=t) (k:=k) (a:=(ρ a).i+c) (b:=(ρ 0).i+d) (by omega) (Int.le_trans (akc k) q0) (by omega)
   let ρ2:=nV ρ K.nx (((ρ a).i+c).tdiv ((ρ 0).i+d))
   have q:(ρ2 K.nx).i=((ρ a).i+c).tdiv ((ρ 0).i+d):=vo;have D:bY K.nx ρ ρ2:=uF;have ea:ρ2 a=ρ a:=(D a ha).symm;have e0:(ρ2 0).i=0:=by rw[<-D 0 S.z];exact hz
   have N:bw tb ρ2 K:=A.nh S D;have L:K.nx<K.new.nx:=iW _;have aa:a<K.new.nx:=iq ha;have ai:0<K.new.nx:=BH _;refine qH (ρ':=ρ2) ?_ (wX (iC (iC (oH S) ai L) L aa) λ n=>⟨L,ai⟩) (eD ?_) D (wA (gL (gL (pa N) ?_) ?_) ?_) ?_;.rw[xc];exact jl _
   .rw[xc];exact L
   .rw[q,e0];omega
   .rw[q,ea];omega
   .intro n G;have:=DC A G;simp only[q,e0];rw[aBc (by omega),hz];have:((ρ a).i+c)/(0+d)<=(n+c)/d:=by rw[xD];exact Int.ediv_le_ediv (by omega) (by omega)
    omega
   show dn _ _ _ _ _=some (ae.sc (.int k ((ρ2 K.nx).i+0)));rw[e,q];congr 3;omega
  cases h
 ·
  split at h
  .rename_i F;rw[aR,aR,aR,aR]at F;obtain⟨⟨⟨⟨J,M⟩,h3⟩,Y⟩,h5⟩:=F;have J:=cU J;have M:=jk M;have h3:=jk h3;subst J M h3;have Y:=dr A Y;have h5:=dr A h5;rw[hz]at Y h5;split at h
   .rename_i x y hs;have hm:cq.sum a x y 0∈K.fs:=by obtain⟨f,hf,hs⟩:=Ie hs;grind[Nat.eq_of_beq_eq_true]
    have ah:=S.fs _ hm;have ao:(ρ a).i=(ρ x).i+(ρ y).i+0:=A.fs _ hm;have e:=auE (P:=P) (t:=t) (k:=k) (a:=(ρ a).i+0);rw[aiH _ (by omega)]at e
    let ρ2:=nV ρ K.nx (((ρ a).i+0)/2)
    have q:(ρ2 K.nx).i=((ρ a).i+0)/2:=vo;have D:bY K.nx ρ ρ2:=uF;have ea:ρ2 a=ρ a:=(D a ha).symm;have ex:ρ2 x=ρ x:=(D x ah.2.1).symm;have ey:ρ2 y=ρ y:=(D y ah.2.2).symm;have N:bw tb ρ2 K:=A.nh S D;have L:K.nx<K.new.nx:=iW _;have aa:a<K.new.nx:=iq ha;have ak:x<K.new.nx:=iq ah.2.1;have aj:y<K.new.nx:=iq ah.2.2;have am:vS P .shr t (.sc (.int k ((ρ a).i+0))) (.sc (.int k ((ρ 0).i+1))) ρ2 (.int k K.nx 0):=by show dn _ _ _ _ _=some (ae.sc (.int k ((ρ2 K.nx).i+0)));grind
    split at h
    .rename_i ad;cases h;have ad:=dr A ad;refine qH (ρ':=ρ2) (jl _) (iC (iC (iC (oH S) ak L) L aj) L aa) (eD L) D (gL (gL (gL (pa N) ?_) ?_) ?_) am;.rw[q,ex];omega
     .rw[q,ey];omega
     rw[q,ea];omega
    split at h
    .rename_i ad;cases h;have ad:=dr A ad;refine qH (ρ':=ρ2) (jl _) (iC (iC (iC (oH S) ak L) L aj) L aa) (eD L) D (gL (gL (gL (pa N) ?_) ?_) ?_) am;.rw[q,ex];omega
     .rw[q,ey];omega
     rw[q,ea];omega
    cases h
   cases h
  cases h
 .cases h
theorem wrap64(n:Int):0<=IntKind.wrap .u64 n/\IntKind.wrap .u64 n<=18446744073709551615:=by have e:IntKind.wrap .u64 n=n%18446744073709551616:=rfl;grind
def Ks(Y:AR tb)(G:cB K)(J:bw tb ρ K){id:Nat}{c z:Int}(M:a<K.nx)(A:b<K.nx)(h1:100<=id)(h2:id<=103)(hr:D3 id ((ρ a).i+c) ((ρ b).i+d)=pure (.int .u64 z))(hz:0<=z/\z<=18446744073709551615)
 (S:dn P op t (.sc (.int .u64 ((ρ a).i+c))) (.sc (.int k' ((ρ b).i+d)))=some (.sc (.int .u64 z))):
 gu tb ρ K bg (vS P op t (.sc (.int .u64 ((ρ a).i+c))) (.sc (.int k' ((ρ b).i+d)))) [(.int .u64 K.nx 0,((K.new.add 0 0 K.nx 0).add K.nx 0 0 18446744073709551615).fact (.pr id [.i a c,.i b d,.i K.nx 0]))]:=by
 let ρ2:=nV ρ K.nx z
 have h:(ρ2 K.nx).i=z:=vo;have D:bY K.nx ρ ρ2:=uF;have ea:ρ2 a=ρ a:=(D a M).symm;have eb:ρ2 b=ρ b:=(D b A).symm;have N:(ρ2 0).i=0:=by rw[<-D 0 G.z,J.z];rfl
 have F:K.nx<K.new.nx:=iW _;have q:0<K.new.nx:=BH _;refine qH (ρ':=ρ2) (by rw[pM];exact jl _) (wF (iC (iC (oH G) q F) F q) ?_) (by rw[pM];exact eD F) D (xk (gL (gL (pa (J.nh G D)) ?_) ?_) ?_) ?_
 .intro e L;simp only[ck,lB,l7]at L;rcases L with rfl|rfl|rfl
  .exact iq M
  .exact iq A
  exact F
 .rw[h,N];omega
 .rw[h,N];omega
 .show tb.pr id [⟨(ρ2 a).i+c,false,[],[]⟩,⟨(ρ2 b).i+d,false,[],[]⟩,⟨(ρ2 K.nx).i+0,false,[],[]⟩];rw[ea,eb,h,iY];exact Y id _ _ z h1 h2 hr
 .show dn _ _ _ _ _=some (ae.sc (.int .u64 ((ρ2 K.nx).i+0)));rw[S,h,iY]
def akQ(J:AR tb)(F:cB K)(D:bw tb ρ K){c:Int}(G:a<K.nx)(q:b<K.nx)(h:P7 K op k a c b d=some l):
 gu tb ρ K bg (vS P op t (.sc (.int k ((ρ a).i+c))) (.sc (.int k ((ρ b).i+d)))) l:=by
 unfold P7 at h;split at h
 .rename_i id A;cases h;cases op<;>simp only[aaY]at A<;>cases A;.exact Ks J F D G q (by omega) (by omega) (z:=IntKind.wrap .u64 (BitVec.ofInt 64 ((ρ a).i+c)&&&BitVec.ofInt 64 ((ρ b).i+d)).toNat) rfl (wrap64 _) rfl
  .exact Ks J F D G q (by omega) (by omega) (z:=IntKind.wrap .u64 (BitVec.ofInt 64 ((ρ a).i+c)|||BitVec.ofInt 64 ((ρ b).i+d)).toNat) rfl (wrap64 _) rfl
  exact Ks J F D G q (by omega) (by omega) (z:=IntKind.wrap .u64 (BitVec.ofInt 64 ((ρ a).i+c)&&& ~~~BitVec.ofInt 64 ((ρ b).i+d)).toNat) rfl (wrap64 _) rfl
 .exact ajJ F D G q h
theorem azz(G:AR tb)(J:cB K)(q:bw tb ρ K){c:Int}(L:a<K.nx)(A:b<K.nx)(h:Pd K k a c b d=some l):
 gu tb ρ K bg (vS P .shl t (.sc (.int k ((ρ a).i+c))) (.sc (.int k' ((ρ b).i+d)))) l:=by
 unfold Pd at h;split at h
 .split at h
  .rename_i D;cases h;have D:=dr q D;have M:(ρ 0).i=0:=by rw[q.z];rfl
   have e:∀F,Op.shift .shl .u64 ((ρ a).i+c) F ((ρ b).i+d)=pure (.int .u64 (IntKind.wrap .u64 (((ρ a).i+c)*2^(min ((ρ b).i+d).toNat IntKind.u64.bits)))):=by grind[Op.shift]
   refine Ks G J q L A (id:=103) (by omega) (by omega) (e .i64) (wrap64 _) ?_;rw[nw];show(match qo (Op.shift .shl .u64 ((ρ a).i+c) k' ((ρ b).i+d))with|some r=>kx r|none=>none)=_;rw[e k'];rfl
  cases h
 .cases h
theorem atW(J:AR tb)(F:cB K)(D:bw tb ρ K){c:Int}(G:a<K.nx)(q:b<K.nx)(h:Ol K op k a c b d=some l):
 gu tb ρ K bg (vS P op t (.sc (.int k ((ρ a).i+c))) (.sc (.int k ((ρ b).i+d)))) l:=by
 have A:∀{x:Bool} {l:List (XV×XK)},dn P op t (.sc (.int k ((ρ a).i+c))) (.sc (.int k ((ρ b).i+d)))=some (.sc (.bool x))->gu tb ρ K bg (λ ρ' v=>ev ρ' v=.sc (.bool x)) l->gu tb ρ K bg (vS P op t (.sc (.int k ((ρ a).i+c))) (.sc (.int k ((ρ b).i+d)))) l:=by grind
 unfold Ol at h;split at h;.cases h;exact A XE (CV F D G q).bL
 .cases h;exact A adB (CV F D q G).bL
 .cases h;refine A (afy.trans ?_) (CV F D q G).yF.bL;grind[decide]
 .cases h;refine A (XW.trans ?_) (CV F D G q).yF.bL;grind[decide]
 .cases h;exact A Xt (acp F D G q).bL
 .cases h;exact A TU (acp F D G q).yF.bL
 .exact akQ J F D G q h
def arj{a b:List UInt8}(h:op=.eql\/op=.neq):∃v,dn P op t (.sc (.str a)) (.sc (.str b))=some (.sc (.bool v)):=by
 rcases h with rfl|rfl
 .exact⟨_,rfl⟩
 exact⟨_,rfl⟩
def acI(h:v.isStr=true):∃s,ev ρ v=.sc (.str s):=by
 cases v with
 |ss x=>exact⟨_,rfl⟩
 |sc a=>cases a<;>first|exact⟨_,rfl⟩|cases h
 |_=>cases h
def JZ(ρ:bm)(x:Nat)(b:Bool):bm:=λ y=>if y=x then⟨0,b,[],[]⟩else ρ y
def ael{x:Nat}{n:Bool}:bY x ρ (JZ ρ x n):=λ y h=>by show _=if y=x then _ else _;rw[aj (by omega)]
def aAo{x:Nat}{n:Bool}:(JZ ρ x n x).b=n:=by show(if x=x then _ else _:SV).b=_;rw[ao rfl]
theorem ayw(J:AR tb)(q:cB K)(A:bw tb ρ K){t:TypeId}{x:XV}(G:bg K.nx x)(F:bg K.nx y)(h:PV K op x y=some l):
 gu tb ρ K bg (vS P op t (ev ρ x) (ev ρ y)) l:=by
 unfold PV at h;split at h
 .split at h;.exact azz J q A G.int F.int h
  split at h;.rename_i e;subst e;exact atW J q A G.int F.int h
  cases h
 .split at h
  .rename_i e;rw[aR]at e;obtain⟨s,es⟩:=acI (ρ:=ρ) e.1;obtain⟨s',D⟩:=acI (ρ:=ρ) e.2;rw[es,D];have N:op=.eql\/op=.neq->gu tb ρ K bg (vS P op t (.sc (.str s)) (.sc (.str s'))) [(.bs K.nx,K.new)]:=by intro M;obtain⟨v,L⟩:=arj (P:=P) (t:=t) (a:=s) (b:=s') M;refine qH (ρ':=JZ ρ K.nx v) (jl _) (oH q) (FL (iW _)) ael (pa (A.nh q ael)) ?_;show dn _ _ _ _ _=some (ae.sc (.bool (JZ ρ K.nx v K.nx).b));rw[aAo];exact L
   unfold Z1 at h;grind
  cases h
def JK(D:cB K)(q:bw tb ρ K){x:Nat}(F:x<K.nx):gu tb ρ K yU (λ _ b=>b=(ρ x).b) (D8 K x):=by
 unfold D8;split
 .rename_i b A;obtain⟨f,A,h⟩:=Ie A;split at h
  .rename_i y G;split at h;.rename_i e;cases h;have:=q.fs _ A;rw[cU e]at this;exact iI D trivial q (show(ρ x).b=b from this).symm
   cases h
  cases h
 refine Hq rfl rfl (wF D F) (wF D F) trivial trivial ?_;cases e:(ρ x).b;.exact .inr ⟨xk q e,rfl⟩
 exact .inl ⟨xk q e,rfl⟩
def ack(A:cB K)(q:bw tb ρ K){l:List (Bool×XK)}(D:bg K.nx v)(h:JX K v=some l):∃b,ev ρ v=.sc (.bool b)/\gu tb ρ K yU (λ _ x=>x=b) l:=by
 unfold JX at h;split at h;.cases h;exact⟨_,rfl,iI A trivial q rfl⟩
 .cases h;exact⟨_,rfl,JK A q D.bs⟩
 cases h
def awb(A:cB K)(q:bw tb ρ K){op:UnOp}(D:bg K.nx v)(h:Sy K op v=some l):gu tb ρ K bg (λ ρ' r=>vg op (ev ρ v)=some (ev ρ' r)) l:=by
 unfold Sy at h;split at h
 .split at h;.cases h;exact iI A vF q rfl
  cases h
 .split at h;.cases h;exact(JK A q D.bs).map (λ x=>XV.sc (.bool (!x))) (λ _ _ _=>vF) λ ρ' a F=>by subst F;rfl
  cases h
 cases h
theorem arx(q:bw tb ρ K){w:XV}(D:bg K.nx v)(h:Q8 K k v=some w):(match ev ρ v with|.sc (.int _ n)=>some (ae.sc (.int k (k.wrap n)))|_=>none)=some (ev ρ w)/\bg K.nx w:=by
 unfold Q8 at h;split at h
 .split at h
  .rename_i A;rw[aR]at A;have J:=dr q A.1;have G:=dr q A.2;have F:(ρ 0).i=0:=by rw[q.z];rfl
   cases h;refine⟨?_,eD D.int⟩;show some (ae.sc (.int k (k.wrap _)))=some (.sc (.int k _));grind[Nh]
  cases h
 cases h
def auB(Y:cB K)(S:bw tb ρ K){x:XV}(J:bg K.nx x)(G:bg K.nx y)(h:Qq K x y=some l):gu tb ρ K bg (λ ρ' r=>DM (ev ρ x) (ev ρ y)=some (ev ρ' r)) l:=by
 unfold Qq at h;split at h
 .rename_i k a c k' b d;cases h;obtain⟨F,r,M,ρ',L,h3,h4⟩:=CV Y S (c:=d) (d:=c) G.int J.int;refine⟨λ q N=>?_,_,eK.2 ⟨r,M,rfl⟩,ρ',L,h3,?_⟩
  .obtain⟨p,D,rfl⟩:=eK.1 N;refine⟨(F p D).1,(F p D).2.1,?_⟩;show bg p.2.nx (match p.1 with|true=>.int k b d|false=>.int k a c);split;.exact(eD G.int).mono (F p D).1
   exact(eD J.int).mono (F p D).1
  show some (ae.sc (.int k (if(ρ b).i+d<(ρ a).i+c then(ρ b).i+d else(ρ a).i+c)))=some (ev ρ' (match r.1 with|true=>.int k b d|false=>.int k a c));rw[h4];by_cases A:(ρ b).i+d<(ρ a).i+c;.rw[ao A,dV A];show _=some (ae.sc (.int k ((ρ' b).i+d)));rw[L b G.int]
  rw[aj A,cX A];show _=some (ae.sc (.int k ((ρ' a).i+c)));rw[L a J.int]
 cases h
def az1(Y:cB K)(S:bw tb ρ K){x:XV}(J:bg K.nx x)(G:bg K.nx y)(h:Up K x y=some l):gu tb ρ K bg (λ ρ' r=>BJ (ev ρ x) (ev ρ y)=some (ev ρ' r)) l:=by
 unfold Up at h;split at h
 .rename_i k a c k' b d;cases h;obtain⟨F,r,M,ρ',L,h3,h4⟩:=CV Y S (c:=c) (d:=d) J.int G.int;refine⟨λ q N=>?_,_,eK.2 ⟨r,M,rfl⟩,ρ',L,h3,?_⟩
  .obtain⟨p,D,rfl⟩:=eK.1 N;refine⟨(F p D).1,(F p D).2.1,?_⟩;show bg p.2.nx (match p.1 with|true=>.int k b d|false=>.int k a c);split;.exact(eD G.int).mono (F p D).1
   exact(eD J.int).mono (F p D).1
  show some (ae.sc (.int k (if(ρ a).i+c<(ρ b).i+d then(ρ b).i+d else(ρ a).i+c)))=some (ev ρ' (match r.1 with|true=>.int k b d|false=>.int k a c));rw[h4];by_cases A:(ρ a).i+c<(ρ b).i+d;.rw[ao A,dV A];show _=some (ae.sc (.int k ((ρ' b).i+d)));rw[L b G.int]
  rw[aj A,cX A];show _=some (ae.sc (.int k ((ρ' a).i+c)));rw[L a J.int]
 cases h
end
section
variable{σ τ:Sub}
variable{ρ ρ':bm}{tb:js}{C:eL}
def pull(ρ:bm)(σ:Sub):bm:=aQ (σ.map (dS ρ))
def Pg(σ:Sub)(x:Nat):pull ρ σ x=match σ[x]?with|some e=>dS ρ e|none=>SV.z:=by unfold pull aQ;rw[pJ,bM];cases σ[x]? <;>rfl
def uY(h0:ρ 0=SV.z)(σ:Sub)(x:Nat):(ρ (σ.num x).1).i+(σ.num x).2=(pull ρ σ x).i:=by
 rw[Pg];unfold Sub.num;cases σ[x]?;.show(ρ 0).i+0=_;rw[h0];rfl
 rename_i e
 cases e with
  |i y d=>rfl
  |s y=>show(ρ y).i+0=_;rw[iY];rfl
def Bo(h0:ρ 0=SV.z)(σ:Sub)(x:Nat):(ρ (σ.sym x)).l=(pull ρ σ x).l/\(ρ (σ.sym x)).b=(pull ρ σ x).b/\(ρ (σ.sym x)).s=(pull ρ σ x).s:=by
 rw[Pg];unfold Sub.sym;cases σ[x]?;.show(ρ 0).l=_/\(ρ 0).b=_/\(ρ 0).s=_;rw[h0];exact⟨rfl,rfl,rfl⟩
 rename_i e
 cases e with
  |i y d=>show(ρ 0).l=_/\(ρ 0).b=_/\(ρ 0).s=_;rw[h0];exact⟨rfl,rfl,rfl⟩
  |s y=>exact⟨rfl,rfl,rfl⟩
mutual
theorem HT(h0:ρ 0=SV.z)(σ:Sub):∀v:XV,ev ρ (oD σ v)=ev (pull ρ σ) v
 |.sc _=>rfl
 |.int k x c=>by show ae.sc (.int k ((ρ (σ.num x).1).i+((σ.num x).2+c)))=.sc (.int k ((pull ρ σ x).i+c));rw[<-uY h0,NC]
 |.bs x=>by show ae.sc (.bool _)=.sc (.bool _);rw[(Bo h0 σ x).2.1]
 |.ss x=>by show ae.sc (.str _)=.sc (.str _);rw[(Bo h0 σ x).2.2]
 |.sl x o=>by show ae.sl _ _=.sl _ _;rw[(Bo h0 σ x).1]
 |.sx es o=>by show ae.sl (cL ρ (tK σ es)) o=.sl (cL (pull ρ σ) es) o;rw[ZA h0 σ es]
 |.ptr _ _ _=>rfl
 |.rp cs off=>by show ae.rp (aE ρ (gp σ cs)) off=.rp (aE (pull ρ σ) cs) off;rw[wP h0 σ cs]
 |.ms _ _ _ _=>rfl
 |.fn f cap=>by show ae.fn f (aE ρ (gp σ cap))=.fn f (aE (pull ρ σ) cap);rw[wP h0 σ cap]
 |.agg cs=>by show ae.agg (aE ρ (gp σ cs))=.agg (aE (pull ρ σ) cs);rw[wP h0 σ cs]
 |.aL vs=>by show ae.aL (aE ρ (gp σ vs))=.aL (aE (pull ρ σ) vs);rw[wP h0 σ vs]
 |.un=>rfl
theorem wP(h0:ρ 0=SV.z)(σ:Sub):∀v:List XV,aE ρ (gp σ v)=aE (pull ρ σ) v
 |[]=>rfl
 |v::l=>by show ev ρ (oD σ v)::aE ρ (gp σ l)=_;rw[HT h0 σ v,wP h0 σ l];rfl
theorem ZA(h0:ρ 0=SV.z)(σ:Sub):∀v:List (List XV),cL ρ (tK σ v)=cL (pull ρ σ) v
 |[]=>rfl
 |v::l=>by show aE ρ (gp σ v)::cL ρ (tK σ l)=_;rw[wP h0 σ v,ZA h0 σ l];rfl
end
def Gb(h0:ρ 0=SV.z)(σ:Sub)(p:Nat×Int):b8 ρ (nR σ p)=b8 (pull ρ σ) p:=by show(ρ (σ.num p.1).1).i+((σ.num p.1).2+p.2)=(pull ρ σ p.1).i+p.2;rw[<-uY h0,NC]
def avh(h0:ρ 0=SV.z)(σ:Sub)(e:SE):dS ρ (Jo σ e)=dS (pull ρ σ) e:=by
 cases e with
 |i x c=>
  show SV.mk ((ρ (σ.num x).1).i+((σ.num x).2+c)) _ _ _=SV.mk ((pull ρ σ x).i+c) _ _ _;rw[<-uY h0,NC]
 |s x=>
  show dS ρ (match σ[x]?with|some e=>e|none=>.i 0 0)=pull ρ σ x;rw[Pg];cases σ[x]?;.show SV.mk ((ρ 0).i+0) _ _ _=_;rw[h0];rfl
  rename_i e;rfl
theorem RY(h0:ρ 0=SV.z)(σ:Sub)(f:cq):dL tb ρ (Eb σ f)↔dL tb (pull ρ σ) f:=by
 cases f with
 |le a b c=>
  show(ρ (σ.num a).1).i<=(ρ (σ.num b).1).i+((σ.num b).2+c-(σ.num a).2)↔(pull ρ σ a).i<=(pull ρ σ b).i+c;rw[<-uY h0,<-uY h0];omega
 |sl x n c nm bs=>
  show(((ρ (σ.sym x)).l.length:Int)=(ρ (σ.num n).1).i+((σ.num n).2+c)/\∀(i:Nat) e,(ρ (σ.sym x)).l[i]? =some e->dX tb nm ((bs.map (nR σ)).map (b8 ρ)) i e)↔_;rw[(Bo h0 σ x).1,ko,show(b8 ρ∘nR σ)=b8 (pull ρ σ)from funext λ p=>Gb h0 σ p,<-NC,uY h0];exact Iff.rfl
 |str x s=>show(ρ (σ.sym x)).s∈s↔_;rw[(Bo h0 σ x).2.2];exact Iff.rfl
 |bb x b=>show(ρ (σ.sym x)).b=b↔_;rw[(Bo h0 σ x).2.1];exact Iff.rfl
 |el x i c cells=>
  show(∃j:Nat,(ρ (σ.num i).1).i+((σ.num i).2+c)=j/\(ρ (σ.sym x)).l[j]? =some (aE ρ (gp σ cells)))↔_;rw[(Bo h0 σ x).1,<-NC,uY h0,wP h0];exact Iff.rfl
 |sum z a b c=>
  show(ρ (σ.num z).1).i=(ρ (σ.num a).1).i+(ρ (σ.num b).1).i+((σ.num a).2+(σ.num b).2+c-(σ.num z).2)↔(pull ρ σ z).i=(pull ρ σ a).i+(pull ρ σ b).i+c;rw[<-uY h0,<-uY h0,<-uY h0];omega
 |pr k l=>
  show tb.pr k ((l.map (Jo σ)).map (dS ρ))↔tb.pr k (l.map (dS (pull ρ σ)));rw[ko,show(l.map (dS ρ∘Jo σ))=l.map (dS (pull ρ σ))from kX λ e _=>avh h0 σ e]
def fp(n:Nat)(σ:Sub):Prop:=∀e∈σ,match e with|.i y _=>y<n|.s y=>y<n
def fp.num(h:fp n σ)(q:0<n)(x:Nat):(σ.num x).1<n:=by
 unfold Sub.num;cases e:σ[x]?;.exact q
 rename_i s;have:=h s (jm e);cases s<;>exact this
def fp.sym(h:fp n σ)(q:0<n)(x:Nat):σ.sym x<n:=by
 unfold Sub.sym;cases e:σ[x]?;.exact q
 rename_i s;have:=h s (jm e);cases s with
 |i y d=>exact q
 |s y=>exact this
def fp.pull(h:fp n σ)(q:bY n ρ ρ'):pull ρ σ=pull ρ' σ:=by
 unfold Go.Abs.pull
 congr 1
 refine kX λ e A=>?_
 have:=h e A;cases e with
 |i y d=>show SV.mk _ _ _ _=SV.mk _ _ _ _;rw[q y this]
 |s y=>exact q y this
def fp.mono(h:fp n σ)(q:n<=m):fp m σ:=λ e A=>by
 have:=h e A;cases e with
 |i y d=>exact dF this q
 |s y=>exact dF this q
def fp.append(h:fp n σ)(q:fp n τ):fp n (σ++τ):=λ e he=>by
 rcases jA.1 he with he|he
 .exact h e he
 exact q e he
def fp.cons{s:SE}(h:match s with|.i y _=>y<n|.s y=>y<n)(q:fp n τ):fp n (s::τ):=λ e he=>by
 rcases ck.1 he with rfl|he
 .exact h
 exact q e he
def MU(q:0<n)(A:bY n ρ ρ')(h:ρ 0=SV.z):ρ' 0=SV.z:=by rw[<-A 0 q];exact h
def fp.X(h:fp n σ)(A:0<n)(v:XV):∀ρ ρ':bm,ρ 0=SV.z->bY n ρ ρ'->ev ρ (oD σ v)=ev ρ' (oD σ v):=λ ρ ρ' h0 q=>by rw[HT h0,HT (MU A q h0),h.pull q]
end
section
variable{E' E2:bk}{cs vs:List XV}{p v:XV}{q:Nat×Int}
variable{ρ ρ':bm}{tb:js}{C:eL}{K:XK}
def jO(ρ:bm):Option XV->SV
 |some (.int _ y d)=>⟨(ρ y).i+d,false,[],[]⟩
 |some (.sl y _)=>ρ y
 |some (.bs y)=>ρ y
 |some (.ss y)=>ρ y
 |some (.sx es _)=>⟨0,false,[],cL ρ es⟩
 |some (.sc (.bool b))=>⟨0,b,[],[]⟩
 |some (.sc (.str s))=>⟨0,false,s,[]⟩
 |_=>SV.z
def cg(ρ:bm)(E:bk):bm:=aQ (E.map (jO ρ))
theorem fG{E:bk}{x:Nat}(h:E[x]? =some (some v)):cg ρ E x=jO ρ (some v):=by unfold cg aQ;grind
def kG(E E':bk):Prop:=E.length=E'.length/\∀(x:Nat) (v:XV),E[x]? =some (some v)->E'[x]? =some (some v)
def kG.rfl{E:bk}:kG E E:=⟨Eq.refl _,λ _ _ h=>h⟩
def kG.trans{E:bk}(h:kG E E')(A:kG E' E2):kG E E2:=⟨h.1.trans A.1,λ x v e=>A.2 x v (h.2 x v e)⟩
def eY(n:Nat)(E:bk):Prop:=∀(x:Nat) (v:XV),E[x]? =some (some v)->bg n v
theorem FM{E:bk}{x:Nat}(h:E[x]? =some none)(G:eY n E)(F:bg n v):kG E (E.set x (some v))/\eY n (E.set x (some v))/\(E.set x (some v))[x]? =some (some v):=by
 have A:x<E.length:=by grind
 refine⟨⟨(VA).symm,λ y w e=>?_⟩,λ y w e=>?_,by rw[List.getElem?_set_self A]⟩;.grind
 rw[If]at e;split at e;.rename_i D;cases e;exact F
 exact G y w e
theorem xi{E:bk}{x:Nat}(h:put E x v=some E')(D:eY n E)(A:bg n v):kG E E'/\eY n E'/\E'[x]? =some (some v):=by grind[put,FM]
def F5(F:bw tb ρ K){c:Int}(h:K.eq a c b d=true):(ρ a).i+c=(ρ b).i+d:=by
 unfold XK.eq at h;rw[nZ,aR,aR]at h;rcases h with⟨D,A⟩|⟨D,A⟩
 .rw[cU D,jk A]
 have:=dr F D;have:=dr F A;omega
theorem qm{c:Int}{Z9:List (Nat×Int)}(h:pX K y=some (n,c,nm,Z9)):cq.sl y n c nm Z9∈K.fs:=by obtain⟨f,A,h⟩:=Ie h;grind[Nat.eq_of_beq_eq_true]
theorem SH{c:Int}{cells:List XV}(h:Ji K y i c=some cells):cq.el y i c cells∈K.fs:=by obtain⟨f,A,h⟩:=Ie h;grind[Nat.eq_of_beq_eq_true]
theorem awa{l:List (List UInt8)}(h:strOf K y=some l):cq.str y l∈K.fs:=by obtain⟨f,A,h⟩:=Ie h;grind[Nat.eq_of_beq_eq_true]
theorem ag3{a b:aa}(h:Kk a b=true):a=b:=by unfold Kk at h;grind
theorem bg.sx{es:List (List XV)}(h:bg n (.sx es o)):∀e∈es,dk n e:=by intro e D ρ ρ' A;have:=h ρ ρ' A;grind[ev,ly,List.map_inj_left]
theorem dk.mem(h:dk n vs)(D:v∈vs):bg n v:=by intro ρ ρ' A;have:=h ρ ρ' A;grind[dz,List.map_inj_left]
def dk.of(h:∀v∈vs,bg n v):dk n vs:=by intro ρ ρ' D;rw[dz,dz];exact kX λ v A=>h v A ρ ρ' D
theorem bg.agg(h:bg n (.agg cs)):dk n cs:=by intro ρ ρ' A;have:=h ρ ρ' A;grind[ev]
theorem bg.aL(h:bg n (.aL cs)):dk n cs:=by intro ρ ρ' A;have:=h ρ ρ' A;grind[ev]
theorem Tw(h:bg n v):bg n (mA v):=λ ρ ρ' A=>by rw[<-qa,<-qa,h ρ ρ' A]
abbrev lV(tb:js)(ρ:bm)(n:Nat)(E E':bk)(p:bm->Prop):Prop:=kG E E'/\eY n E'/\∀E2,kG E' E2->p (cg ρ E2)
theorem acR(N:bw tb ρ K){v:XV}{E:bk}(G:eY K.nx E)(J:bg K.nx v)(h:Md K p v E=some E'):lV tb ρ K.nx E E' λ r=>ev r p=ev ρ v:=by
 unfold Md at h;split at h
 ·
  rename_i k x c k' y d;split at h
  .rename_i e;subst e;split at h
   .rename_i e;cases h;obtain⟨D,F,h3⟩:=FM e G (v:=.int .i64 y (d-c)) (eD J.int);refine⟨D,F,λ E2 A=>?_⟩;show ae.sc (.int k ((cg ρ E2 x).i+c))=.sc (.int k ((ρ y).i+d));rw[fG (A.2 _ _ h3)];show ae.sc (.int k ((ρ y).i+(d-c)+c))=_
    congr 2;omega
   .rename_i k2 z e hx;split at h
    .rename_i heq;cases h;refine⟨.rfl,G,λ E2 A=>?_⟩;have:=F5 N heq;show ae.sc (.int k ((cg ρ E2 x).i+c))=.sc (.int k ((ρ y).i+d));rw[fG (A.2 _ _ hx)];show ae.sc (.int k ((ρ z).i+e+c))=_
     congr 2;omega
    cases h
   cases h
  cases h
 .rename_i x y;obtain⟨D,F,h3⟩:=xi h G (FL J.bs);exact⟨D,F,λ E2 A=>by show ae.sc (.bool (cg ρ E2 x).b)=_;rw[fG (A.2 _ _ h3)];rfl⟩
 .rename_i x b;obtain⟨D,F,h3⟩:=xi h G vF;exact⟨D,F,λ E2 A=>by show ae.sc (.bool (cg ρ E2 x).b)=_;rw[fG (A.2 _ _ h3)];rfl⟩
 .rename_i x y;obtain⟨D,F,h3⟩:=xi h G (Nd J.ss);exact⟨D,F,λ E2 A=>by show ae.sc (.str (cg ρ E2 x).s)=_;rw[fG (A.2 _ _ h3)];rfl⟩
 .rename_i x b;obtain⟨D,F,h3⟩:=xi h G vF;exact⟨D,F,λ E2 A=>by show ae.sc (.str (cg ρ E2 x).s)=_;rw[fG (A.2 _ _ h3)];rfl⟩
 .rename_i x o y M;split at h;.rename_i e;subst e;obtain⟨D,F,h3⟩:=xi h G (sP J.sl);exact⟨D,F,λ E2 A=>by show ae.sl (cg ρ E2 x).l o=_;rw[fG (A.2 _ _ h3)];rfl⟩
  cases h
 .rename_i x o es M;split at h
  .rename_i e;subst e;obtain⟨D,F,h3⟩:=xi h G (v:=.sx es none) (λ ρ ρ' ha=>by have:=J ρ ρ' ha;grind[ev])
   exact⟨D,F,λ E2 A=>by show ae.sl (cg ρ E2 x).l o=_;rw[fG (A.2 _ _ h3)];rfl⟩
  cases h
 .split at h;.rename_i e;cases h;rw[ag3 e];exact⟨.rfl,G,λ _ _=>rfl⟩
  cases h
 .split at h;.rename_i e;cases h;subst e;exact⟨.rfl,G,λ _ _=>rfl⟩
  cases h
 .rename_i x o y d M;split at h;.rename_i e;subst e;have Y:bg K.nx (.int .i64 y d):=(J.sx _ (dp.2 rfl)).mem (dp.2 rfl);obtain⟨D,F,h3⟩:=xi h G Y;refine⟨D,F,λ E2 A=>?_⟩;show ae.sl [[.sc (.int .i64 ((cg ρ E2 x).i+0))]] _=.sl [[.sc (.int .i64 ((ρ y).i+d))]] _;rw[fG (A.2 _ _ h3)];show ae.sl [[.sc (.int .i64 ((ρ y).i+d+0))]] _=_;rw[iY]
  cases h
 .rename_i x x' o y d L P M;split at h
  .rename_i e;subst e;have Y:bg K.nx (.int .i64 y d):=(J.sx [.int .i64 y d] (by simp)).mem (dp.2 rfl);have S:bg K.nx (.int .i64 L P):=(J.sx [.int .i64 L P] (by simp)).mem (dp.2 rfl);split at h;.rename_i E1 aa;obtain⟨D,F,h3⟩:=xi aa G Y;obtain⟨g1,g2,g3⟩:=xi h F S;refine⟨D.trans g1,g2,λ E2 A=>?_⟩;show ae.sl [[.sc (.int .i64 ((cg ρ E2 x).i+0))],[.sc (.int .i64 ((cg ρ E2 x').i+0))]] _=.sl [[.sc (.int .i64 ((ρ y).i+d))],[.sc (.int .i64 ((ρ L).i+P))]] _;rw[fG (A.2 _ _ (g1.2 _ _ h3)),fG (A.2 _ _ g3)];show ae.sl [[.sc (.int .i64 ((ρ y).i+d+0))],[.sc (.int .i64 ((ρ L).i+P+0))]] _=_;rw[iY,iY]
   cases h
  cases h
 .rename_i o y M;split at h
  .rename_i e;subst e;split at h
   .rename_i n c nm Z9 hs;split at h
    .rename_i hl;cases h;refine⟨.rfl,G,λ E2 A=>?_⟩;have D:=N.fs _ (qm hs);have F:=D.1;have h3:=dr N hl;have hz:(ρ 0).i=0:=by rw[N.z];rfl
     have:(ρ y).l=[]:=km (by omega);show ae.sl [] o=.sl (ρ y).l o;rw[this]
    cases h
   cases h
  cases h
 .split at h;.rename_i e;cases h;subst e;exact⟨.rfl,G,λ _ _=>rfl⟩
  cases h
 .cases h;exact⟨.rfl,G,λ _ _=>rfl⟩
 cases h
def Bt(F:bw tb ρ K):∀{p v:List XV} {E E':bk},eY K.nx E->dk K.nx v->wB K p v E=some E'->lV tb ρ K.nx E E' λ r=>aE r p=aE ρ v
 |[],[],E,E',D,A,h=>by cases h;exact⟨.rfl,D,λ _ _=>rfl⟩
 |p::ps,v::vs,E,E',D,A,h=>by
  unfold wB at h;split at h;.rename_i M L;obtain⟨a1,a2,a3⟩:=acR F D (A.mem cS) L;obtain⟨b1,b2,b3⟩:=Bt F a2 (dk.of λ w J=>A.mem (cz _ J)) h;exact⟨a1.trans b1,b2,λ E2 G=>by show ev _ p::aE _ ps=ev ρ v::aE ρ vs;rw[a3 E2 (b1.trans G),b3 E2 G]⟩
  cases h
 |[],_::_,_,_,_,_,h=>by cases h
 |_::_,[],_,_,_,_,h=>by cases h
def ain(D:bw tb ρ K){E:bk}(F:eY K.nx E)(A:bg K.nx v)(h:MK K p v E=some E'):lV tb ρ K.nx E E' λ r=>ev r p=ev ρ v:=by
 unfold MK at h;split at h;.obtain⟨a1,a2,a3⟩:=Bt D F A.agg h;exact⟨a1,a2,λ E2 G=>by show ae.agg _=.agg _;rw[a3 E2 G]⟩
 exact acR D F A h
def aaZ(F:bw tb ρ K):∀{p v:List XV} {E E':bk},eY K.nx E->dk K.nx v->LJ K p v E=some E'->lV tb ρ K.nx E E' λ r=>aE r p=aE ρ v
 |[],[],E,E',D,A,h=>by cases h;exact⟨.rfl,D,λ _ _=>rfl⟩
 |p::ps,v::vs,E,E',D,A,h=>by
  unfold LJ at h;split at h;.rename_i M L;obtain⟨a1,a2,a3⟩:=ain F D (A.mem cS) L;obtain⟨b1,b2,b3⟩:=aaZ F a2 (dk.of λ w J=>A.mem (cz _ J)) h;exact⟨a1.trans b1,b2,λ E2 G=>by show ev _ p::aE _ ps=ev ρ v::aE ρ vs;rw[a3 E2 (b1.trans G),b3 E2 G]⟩
  cases h
 |[],_::_,_,_,_,_,h=>by cases h
 |_::_,[],_,_,_,_,h=>by cases h
def F9(D:bw tb ρ K){E:bk}(F:eY K.nx E)(A:bg K.nx v)(h:Bm K p v E=some E'):lV tb ρ K.nx E E' λ r=>ev r p=ev ρ v:=by
 unfold Bm at h;split at h;.obtain⟨a1,a2,a3⟩:=aaZ D F A.aL h;exact⟨a1,a2,λ E2 G=>by show ae.aL _=.aL _;rw[a3 E2 G]⟩
 exact ain D F A h
def XZ(F:bw tb ρ K):∀{p v:List XV} {E E':bk},eY K.nx E->dk K.nx v->IB K p v E=some E'->lV tb ρ K.nx E E' λ r=>aE r p=aE ρ v
 |[],[],E,E',D,A,h=>by cases h;exact⟨.rfl,D,λ _ _=>rfl⟩
 |p::ps,v::vs,E,E',D,A,h=>by
  unfold IB at h;split at h;.rename_i M L;obtain⟨a1,a2,a3⟩:=F9 F D (A.mem cS) L;obtain⟨b1,b2,b3⟩:=XZ F a2 (dk.of λ w J=>A.mem (cz _ J)) h;exact⟨a1.trans b1,b2,λ E2 G=>by show ev _ p::aE _ ps=ev ρ v::aE ρ vs;rw[a3 E2 (b1.trans G),b3 E2 G]⟩
  cases h
 |[],_::_,_,_,_,_,h=>by cases h
 |_::_,[],_,_,_,_,h=>by cases h
theorem kS{E:bk}{x:Nat}(h:E.at x=some v):E[x]? =some (some v):=by grind[bk.at]
def tI{E:bk}{x:Nat}{c:Int}(h:E.num x c=some q)(A:kG E E2):(cg ρ E2 x).i+c=b8 ρ q:=by
 unfold bk.num at h;split at h;.rename_i k y d e;cases h;rw[fG (A.2 _ _ (kS e))];show(ρ y).i+d+c=(ρ y).i+(d+c);omega
 cases h
def Yk{E:bk}{x:Nat}{c:Int}(A:eY n E)(h:E.num x c=some q):q.1<n:=by
 unfold bk.num at h;split at h;.rename_i k y d e;cases h;exact(A _ _ (kS e)).int
 cases h
def Oo{E:bk}(A:kG E E2):∀{l q:List (Nat×Int)},E.AK l=some q->l.map (b8 (cg ρ E2))=q.map (b8 ρ)
 |[],q,h=>by cases h;rfl
 |p::l,q,h=>by
  unfold bk.AK at h;split at h
  .rename_i a r F D;cases h;rw[fL,fL,Oo A D]
   congr 1
   exact tI F A
  cases h
def KK{E:bk}(A:eY n E):∀{l q:List (Nat×Int)},E.AK l=some q->∀p∈q,p.1<n
 |[],q,h=>by cases h;intro p hp;cases hp
 |p::l,q,h=>by
  unfold bk.AK at h;split at h
  .rename_i a r F D;cases h;intro p hp;rcases ck.1 hp with rfl|hp
   .exact Yk A F
   exact KK A D p hp
  cases h
theorem acz(A:bw tb ρ K):∀{l q:List (Nat×Int)},JM K l q=true->l.map (b8 ρ)=q.map (b8 ρ)
 |[],[],h=>rfl
 |p::l,q::r,h=>by
  unfold JM at h;rw[aR]at h;rw[fL,fL,acz A h.2]
  congr 1
  exact F5 A h.1
 |[],_::_,h=>by cases h
 |_::_,[],h=>by cases h
def DG(J:bw tb ρ K){E:bk}{c:Int}(D:eY K.nx E)(F:y<K.nx)(h:zw K E n c y d=some E'):lV tb ρ K.nx E E' λ r=>(r n).i+c=(ρ y).i+d:=by
 unfold zw at h;split at h;.rename_i e;cases h;obtain⟨M,L,h3⟩:=FM e D (v:=.int .i64 y (d-c)) (eD F);refine⟨M,L,λ E2 A=>?_⟩;show(cg ρ E2 n).i+c=_;rw[fG (A.2 _ _ h3)];show(ρ y).i+(d-c)+c=_;omega
 .rename_i k z e G;split at h;.rename_i heq;cases h;refine⟨.rfl,D,λ E2 A=>?_⟩;have:=F5 J heq;show(cg ρ E2 n).i+c=_;rw[fG (A.2 _ _ G)];show(ρ z).i+e+c=_;omega
  cases h
 cases h
def V7(L:bw tb ρ K)(S:cB K){p v:SE}{E:bk}(G:eY K.nx E)(J:tL K.nx v)(h:IT K p v E=some E'):lV tb ρ K.nx E E' λ r=>dS r p=dS ρ v:=by
 unfold IT at h;split at h;.rename_i x c y d;obtain⟨a1,a2,a3⟩:=DG L G J h;exact⟨a1,a2,λ E2 F=>by show SV.mk _ _ _ _=SV.mk _ _ _ _;rw[a3 E2 F]⟩
 .cases h
 .rename_i x y;have same:∀{z:Nat} {w:XV},E[x]? =some (some w)->jO ρ (some w)=ρ z->Nat.beq y z=true->lV tb ρ K.nx E E λ r=>dS r (.s x)=dS ρ (.s y):=by intro z w D P A;refine⟨.rfl,G,λ E2 F=>?_⟩;show cg ρ E2 x=ρ y;rw[fG (F.2 _ _ D),P,cU A]
  split at h;.rename_i e;cases h;obtain⟨N,M,h3⟩:=FM e G (v:=.sl y none) (sP J);exact⟨N,M,λ E2 F=>by show cg ρ E2 x=ρ y;rw[fG (F.2 _ _ h3)];rfl⟩
  .rename_i z o D;split at h;.rename_i A;cases h;exact same D rfl A
   cases h
  .rename_i z D;split at h;.rename_i A;cases h;exact same D rfl A
   cases h
  .rename_i z D;split at h;.rename_i A;cases h;exact same D rfl A
   cases h
  .rename_i o D;split at h;.rename_i A;cases h;exact same (z:=0) D (by rw[L.z];rfl) A
   cases h
  cases h
 rename_i x y d;split at h;.rename_i e;cases h;obtain⟨N,M,h3⟩:=FM e G (v:=.int .i64 y d) (eD J);exact⟨N,M,λ E2 F=>by show cg ρ E2 x=_;rw[fG (F.2 _ _ h3)];rfl⟩
 .rename_i k z e D;split at h;.rename_i heq;cases h;refine⟨.rfl,G,λ E2 F=>?_⟩;show cg ρ E2 x=_;rw[fG (F.2 _ _ D)];show SV.mk _ _ _ _=SV.mk _ _ _ _;rw[F5 L heq]
  cases h
 cases h
def PL(F:bw tb ρ K)(G:cB K):∀{p v:List SE} {E E':bk},eY K.nx E->(∀e∈v,tL K.nx e)->FI K p v E=some E'->lV tb ρ K.nx E E' λ r=>p.map (dS r)=v.map (dS ρ)
 |[],[],E,E',D,A,h=>by cases h;exact⟨.rfl,D,λ _ _=>rfl⟩
 |p::ps,v::vs,E,E',D,A,h=>by
  unfold FI at h;split at h;.rename_i N M;obtain⟨a1,a2,a3⟩:=V7 F G D (A v cS) M;obtain⟨b1,b2,b3⟩:=PL F G a2 (λ w L=>A w (cz _ L)) h;exact⟨a1.trans b1,b2,λ E2 J=>by show dS (cg ρ E2) p::ps.map (dS (cg ρ E2))=dS ρ v::vs.map (dS ρ);rw[a3 E2 (b1.trans J),b3 E2 J]⟩
  cases h
 |[],_::_,_,_,_,_,h=>by cases h
 |_::_,[],_,_,_,_,h=>by cases h
def ady(F:bw tb ρ K):∀{p v:List (Nat×Int)} {E E':bk},eY K.nx E->(∀e∈v,e.1<K.nx)->Jx K p v E=some E'->lV tb ρ K.nx E E' λ r=>p.map (b8 r)=v.map (b8 ρ)
 |[],[],E,E',D,A,h=>by cases h;exact⟨.rfl,D,λ _ _=>rfl⟩
 |p::ps,v::vs,E,E',D,A,h=>by
  unfold Jx at h;split at h
  .rename_i M L;obtain⟨a1,a2,a3⟩:=DG F D (A v cS) L;obtain⟨b1,b2,b3⟩:=ady F a2 (λ w J=>A w (cz _ J)) h
   exact⟨a1.trans b1,b2,λ E2 G=>by
    show b8 (cg ρ E2) p::ps.map (b8 (cg ρ E2))=b8 ρ v::vs.map (b8 ρ);rw[b3 E2 G]
    congr 1
    exact a3 E2 (b1.trans G)⟩
  cases h
 |[],_::_,_,_,_,_,h=>by cases h
 |_::_,[],_,_,_,_,h=>by cases h
def W2(F:bw tb ρ K)(M:cB K):∀{ps:List LF} {E E':bk},eY K.nx E->zj K ps E=some E'->lV tb ρ K.nx E E' λ r=>∀p∈ps,MO tb r p
 |[],E,E',G,h=>by cases h;exact⟨.rfl,G,λ _ _ p hp=>by cases hp⟩
 |p::ps,E,E',G,h=>by
  have step:∀{J:bk},(lV tb ρ K.nx E J λ r=>MO tb r p)->zj K ps J=some E'->lV tb ρ K.nx E E' λ r=>∀q∈p::ps,MO tb r q:=by
   intro J ⟨a1,a2,a3⟩ D;obtain⟨b1,b2,b3⟩:=W2 F M a2 D;refine⟨a1.trans b1,b2,λ E2 A q S=>?_⟩;rcases ck.1 S with rfl|S
   .exact a3 E2 (b1.trans A)
   exact b3 E2 A q S
  unfold zj at h;split at h
  .rename_i x n c;split at h
   .rename_i y o P;split at h
    .rename_i m d nm Z9 hs;split at h;.rename_i J D;have L:=qm hs;obtain⟨a1,a2,a3⟩:=DG F G (M.fs _ L).2.1 D;refine step ⟨a1,a2,λ E2 A=>?_⟩ h;show((cg ρ E2 x).l.length:Int)=(cg ρ E2 n).i+c;rw[fG ((a1.trans A).2 _ _ (kS P)),a3 E2 A];exact(F.fs _ L).1
     cases h
    cases h
   cases h
  .rename_i a b c;split at h
   .rename_i x d y e D h2;split at h;.rename_i Y;refine step ⟨.rfl,G,λ E2 A=>?_⟩ h;have N:=tI (ρ:=ρ) D A;have e2:=tI (ρ:=ρ) h2 A;have e3:=dr F Y;unfold b8 at N e2;show(cg ρ E2 a).i<=(cg ρ E2 b).i+c;simp only at N e2;omega
    cases h
   cases h
  .rename_i x i c cells;split at h
   .rename_i y o j d P hj;split at h
    .rename_i vs hv;split at h;.rename_i J D;have L:=SH hv;obtain⟨a1,a2,a3⟩:=Bt F G (M.fs _ L).2.2 D;refine step ⟨a1,a2,λ E2 A=>?_⟩ h;obtain⟨q,q1,q2⟩:=F.fs _ L;have N:=tI (ρ:=ρ) hj (a1.trans A);unfold b8 at N;refine⟨q,by rw[<-q1];exact N,?_⟩;rw[fG ((a1.trans A).2 _ _ (kS P)),a3 E2 A];exact q2
     cases h
    cases h
   cases h
  .rename_i k l;obtain⟨f,hf,h⟩:=Ie h;split at h
   .rename_i k' l';split at h
    .rename_i aa;split at h;.rename_i J D;obtain⟨a1,a2,a3⟩:=PL F M G (M.fs _ hf) D;refine step ⟨a1,a2,λ E2 A=>?_⟩ h;show tb.pr k (l.map (dS (cg ρ E2)));rw[a3 E2 A,cU aa];exact F.fs _ hf
     cases h
    cases h
   cases h
  cases h
theorem avt(G:bw tb ρ K)(P:cB K){p f:cq}{E:bk}(S:eY K.nx E)(J:f.bd K.nx)(h:Pm K p f E=some E'):lV tb ρ K.nx E E' λ r=>dL tb r p->dL tb ρ f:=by
 unfold Pm at h;split at h
 .rename_i k l k' l';split at h;.rename_i L;obtain⟨a1,a2,a3⟩:=PL G P S J h;refine⟨a1,a2,λ E2 F A=>?_⟩;have A:tb.pr k (l.map (dS (cg ρ E2))):=A;rw[a3 E2 F,cU L]at A;exact A
  cases h
 .rename_i x n c nm Z9 y m d Y bs;split at h
  .rename_i aa;split at h
   .rename_i E1 h1;split at h;.rename_i E2 h2;obtain⟨a1,a2,a3⟩:=V7 G P S (v:=.s y) J.1 h1;obtain⟨b1,b2,b3⟩:=DG G a2 J.2.1 h2;obtain⟨N,c2,c3⟩:=ady G b2 J.2.2 h;refine⟨(a1.trans b1).trans N,c2,λ D F A=>?_⟩;have e1:cg ρ D x=ρ y:=a3 D ((b1.trans N).trans F);have e2:(cg ρ D n).i+c=(ρ m).i+d:=b3 D (N.trans F);have e3:Z9.map (b8 (cg ρ D))=bs.map (b8 ρ):=c3 D F;obtain⟨M,ab⟩:=A;refine⟨by rw[<-e1,<-e2];exact M,λ i e he=>?_⟩;grind[Nat.eq_of_beq_eq_true]
    cases h
   cases h
  cases h
 cases h
theorem WR(L:kI tb)(D:bw tb ρ K)(F:cB K){A:Nat}{f:cq}(N:f.bd K.nx)(h:KH tb K A f=true):dL tb ρ f:=by
 unfold KH at h;rw[NA]at h;obtain⟨r,M,h⟩:=h;split at h
 .rename_i E S;rw[pI]at h;obtain⟨E',P⟩:=h
  have G:eY K.nx (some (XV.int .i64 0 0)::List.replicate r.k none):=by
   intro x v J;rcases ck.1 (jm J)with hm|hm
   .cases hm;exact eD F.z
   grind
  obtain⟨a1,a2,a3⟩:=avt D F G N S;obtain⟨b1,b2,b3⟩:=W2 D F a2 P;refine a3 E' b1 (L.2.1 _ r M (cg ρ E') ?_ (b3 E' .rfl));rw[fG ((a1.trans b1).2 0 (.int .i64 0 0) rfl)];show SV.mk _ _ _ _=_;rw[D.z];rfl
 cases h
theorem Wk(L:bw tb ρ K)(M:cB K){E:bk}(G:eY K.nx E)(F:kG E E2):∀{l l':List SE},KG E l=some l'->l.map (dS (cg ρ E2))=l'.map (dS ρ)/\∀e∈l',tL K.nx e
 |[],l',h=>by cases h;grind
 |e::l,l',h=>by
  unfold KG at h;split at h
  .rename_i a r D N;cases h;obtain⟨S,P⟩:=Wk L M G F N
   have one:dS (cg ρ E2) e=dS ρ a/\tL K.nx a:=by
    cases e with
    |i x c=>
     simp only[OU]at D;split at D;.rename_i y d J;cases D;refine⟨?_,Yk G J⟩;show SV.mk _ _ _ _=SV.mk _ _ _ _;rw[tI J F];rfl
     cases D
    |s x=>
     simp only[OU]at D;split at D;.rename_i y o A;cases D;exact⟨by show cg ρ E2 x=ρ y;rw[fG (F.2 _ _ (kS A))];rfl,(G _ _ (kS A)).sl⟩
     .rename_i y A;cases D;exact⟨by show cg ρ E2 x=ρ y;rw[fG (F.2 _ _ (kS A))];rfl,(G _ _ (kS A)).bs⟩
     .rename_i y A;cases D;exact⟨by show cg ρ E2 x=ρ y;rw[fG (F.2 _ _ (kS A))];rfl,(G _ _ (kS A)).ss⟩
     .rename_i k y d A;cases D;exact⟨by show cg ρ E2 x=_;rw[fG (F.2 _ _ (kS A))];rfl,(G _ _ (kS A)).int⟩
     .rename_i o A;cases D;exact⟨by show cg ρ E2 x=ρ 0;rw[fG (F.2 _ _ (kS A)),L.z];rfl,M.z⟩
     cases D
   grind
  cases h
def QI(A:bw tb ρ K):∀{l r:List SE},uD K l r=true->l.map (dS ρ)=r.map (dS ρ)
 |[],[],_=>rfl
 |.i y d::l,.i D F::r,h=>by
  simp only[uD,aR]at h;rw[fL,fL,QI A h.2]
  congr 1
  show SV.mk _ _ _ _=SV.mk _ _ _ _;rw[F5 A h.1]
 |.s y::l,.s D::r,h=>by simp only[uD,aR]at h;rw[fL,fL,QI A h.2,cU h.1]
 |.i _ _::_,.s _::_,h=>by simp[uD]at h
 |.s _::_,.i _ _::_,h=>by simp[uD]at h
 |[],_::_,h=>by simp[uD]at h
 |_::_,[],h=>by simp[uD]at h
def anE(A:bw tb ρ K){k:Nat}{l:List SE}(h:Tp K k l=true):tb.pr k (l.map (dS ρ)):=by
 unfold Tp at h;rw[NA]at h;obtain⟨f,D,h⟩:=h;split at h;.rw[aR]at h;have:=A.fs _ D;rw[cU h.1,<-QI A h.2];exact this
 cases h
end
end
end Go.Abs
