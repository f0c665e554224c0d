/- Walks on the abstract machine. -/
import Derived.Test.YtkhnencepibcpaaGreatB
import Derived.Test.YtkhnencepibcpaaGreatE
import Derived.Test.YtkhnencepibcpaaGreatF
import Derived.Test.YtkhnencepibcpaaGreatG
import Derived.Test.YtkhnencepibcpaaGreatJ
set_option linter.all false
set_option maxRecDepth 100000
open BitVec renaming ofInt->ac9
open Bool renaming false->W,true->V
open Go.IntKind renaming wrap->H5
open Go.Op renaming intDiv->ahn,shift->adx
open Go.Proofs.Tryz renaming func238->ay4,func24->azA,func296->ay0,func44->azz,underlying31->adp,underlying47->akz,underlying50->pv,underlying51->aeR,underlying53->akj,underlying56->atv,underlying57->att,underlying59->aj9,underlying61->atq,underlying91->yk,underlying95->ath
open Int renaming fdiv->ayi,natCast_nonneg->auL,ofNat->gu
open List renaming drop_drop->acs,drop_eq_getElem_cons->acR,flatten_cons->auA,getElem?_range->ari,getElem?_set_ne->ahR,length_append->abY,length_map->HY,length_replicate->abP,replicate->ef,take_of_length_le->PN
open Nat renaming add_mul->ang,beq->gr,ble->th,ble_eq_true_of_le->hP
open Option renaming none->X,some->O
open _root_ renaming BitVec->axW,Bool->mi,Int->U,List->B,Nat->R,True->agl,decide_eq_false->aik,rfl->Q,trivial->sp
namespace Go.Abs
noncomputable section
open Go Go.Proofs
variable{H' K K':aj}{I:Im}{N i k m n o off sz u v:R}{P:aA}{S:vH}{a b d s sE sN:au}{cs xs:aF}{e t:bj}{fm lim:bA}{g:fE}{α:Type}{l:B α}{p:U}{r:Row}
section
variable{S':vH}{a:α}{b:aF}{v:au}
def Kp(S:vH)(g y:fE):Prop:=∀u r,g u=O r->¬S r.aI->y u=O r
structure Sh (α:Type)where
 sz:R
 rel:(R->oR)->(R->Prop)->α->aF->Prop
 len:∀{g S a cs},rel g S a cs->cs.length=sz
 one:∀{g S a cs},rel g S a cs->cs.all au.dm=true
 kp:∀{g g' S a cs},Kp S g g'->rel g S a cs->rel g' S a cs
 ot:∀{g S S' a cs},(∀u r,g u=some r->S' r.aI->S r.aI)->rel g S a cs->rel g S' a cs
def wq:Sh U where
 sz:=1
 rel:=λ _ _ n cs=>cs=[.int .i64 n]
 len:=λ h=>by rw[h];rfl
 one:=λ h=>by rw[h];rfl
 kp:=λ _ h=>h
 ot:=λ _ h=>h
def agY:Sh mi where
 sz:=1
 rel:=λ _ _ n cs=>cs=[.bool n]
 len:=λ h=>by rw[h];rfl
 one:=λ h=>by rw[h];rfl
 kp:=λ _ h=>h
 ot:=λ _ h=>h
def yS:Sh jo where
 sz:=1
 rel:=λ _ _ n cs=>cs=[.str n]
 len:=λ h=>by rw[h];rfl
 one:=λ h=>by rw[h];rfl
 kp:=λ _ h=>h
 ot:=λ _ h=>h
def vE{α A:Type}(s:Sh α)(t:Sh A):Sh (α×A)where
 sz:=s.sz+t.sz
 rel:=λ g S x cs=>∃y u,cs=y++u/\s.rel g S x.1 y/\t.rel g S x.2 u
 len:=λ ⟨y,u,e,h1,h2⟩=>by rw[e,kQ,s.len h1,t.len h2]
 one:=λ ⟨y,u,e,h1,h2⟩=>by rw[e,List.all_append,s.one h1,t.one h2];rfl
 kp:=λ k ⟨y,u,e,h1,h2⟩=>⟨y,u,e,s.kp k h1,t.kp k h2⟩
 ot:=λ k ⟨y,u,e,h1,h2⟩=>⟨y,u,e,s.ot k h1,t.ot k h2⟩
def zK(g:fE)(S:vH)(sz n:R)(s:au)(cs:aF):Prop:=cs.length=n*sz/\((n=0/\(s=.aq\/s=.eY))\/∃v off r,s=.slice v off n X/\g v=O r/\¬S r.aI/\r.sz=sz/\off+n*sz<=r.cells.length/\(r.cells.drop off).take (n*sz)=cs)
def zK.read(h:zK g S sz n s cs):jX g sz n s cs:=by
 obtain⟨h1,h2|⟨v,off,r,e1,e2,_,_,e4,e5⟩⟩:=h;.exact⟨h1,.inl h2⟩
 exact⟨h1,.inr ⟨v,off,X,r,e1,e2,e4,e5⟩⟩
def zK.kp{u:fE}(k:Kp S g u)(h:zK g S sz n s cs):zK u S sz n s cs:=by
 obtain⟨h1,h2|⟨v,off,r,e1,e2,e3,e6,e4,e5⟩⟩:=h;.exact⟨h1,.inl h2⟩
 exact⟨h1,.inr ⟨v,off,r,e1,k v r e2 e3,e3,e6,e4,e5⟩⟩
def zK.ot(k:∀u r,g u=O r->S' r.aI->S r.aI)(h:zK g S sz n s cs):zK g S' sz n s cs:=by
 obtain⟨h1,h2|⟨v,off,r,e1,e2,e3,e6,e4,e5⟩⟩:=h;.exact⟨h1,.inl h2⟩
 exact⟨h1,.inr ⟨v,off,r,e1,e2,λ h=>e3 (k v r e2 h),e6,e4,e5⟩⟩
def iF(cs:aF)(sz i:R):aF:=(cs.drop (i*sz)).take sz
theorem aio{a:aF}(h:i*sz+sz<=a.length):iF (a++b) sz i=iF a sz i:=by grind[iF]
theorem anj{a:aF}(y:a.length=i*sz)(u:b.length=sz):iF (a++b) sz i=b:=by grind[iF]
def m9{α:Type}(s:Sh α):Sh (B α)where
 sz:=1
 rel:=λ g S l cs=>∃v ds,cs=[v]/\zK g S s.sz l.length v ds/\∀i a,l[i]? =O a->s.rel g S a (iF ds s.sz i)
 len:=λ ⟨v,ds,e,_,_⟩=>by rw[e];rfl
 one:=λ ⟨v,ds,e,⟨_,h⟩,_⟩=>by rw[e];rcases h with⟨_,rfl|rfl⟩|⟨x,off,r,rfl,_⟩<;>rfl
 kp:=λ k ⟨v,ds,e,h1,h2⟩=>⟨v,ds,e,h1.kp k,λ i a u=>s.kp k (h2 i a u)⟩
 ot:=λ k ⟨v,ds,e,h1,h2⟩=>⟨v,ds,e,h1.ot k,λ i a u=>s.ot k (h2 i a u)⟩
def Fr.kp{H:aj}(h:Fr fm H H')(A:∀f,fm=O f->S f):Kp S H.ah.get H'.ah.get:=λ u r hu y=>h.row u r hu (λ e=>y (A _ e.symm))
def Sh.keep(s:Sh α){H:aj}(h:Fr fm H H')(y:∀f,fm=O f->S f)(u:s.rel H.ah.get S a cs):s.rel H'.ah.get S a cs:=s.kp (h.kp y) u
def Sh.nQ(s:Sh α){H:aj}(h:Fr X H H')(u:s.rel H.ah.get S a cs):s.rel H'.ah.get S a cs:=s.keep h (nofun) u
def Sh.sub(s:Sh α)(h:∀f,S' f->S f)(u:s.rel g S a cs):s.rel g S' a cs:=s.ot (λ _ r _ y=>h _ y) u
def mO{α:Type}(s:Sh α)(K:aj)(N:R)(v:au)(l:B α)(fl:bA):Prop:=(∀f,fl=O f->N<=f)/\∃cs,cm K s.sz l.length v cs fl/\∀i a,l[i]? =O a->s.rel K.ah.get (λ f=>f<N\/fl=O f) a (iF cs s.sz i)
def cm.Pk{H:aj}(h:cm H sz n s cs fm)(A:∀f,fm=O f->¬S f):zK H.ah.get S sz n s cs:=by
 obtain⟨h1,⟨rfl,rfl,_⟩|⟨v,r,rfl,o,u,D,y,rfl⟩⟩:=h;.exact⟨h1,.inl ⟨Q,.inl Q⟩⟩
 exact⟨h1,.inr ⟨v,0,r,Q,o.row,A _ Q,u,aa,by simpa using y⟩⟩
def mO.rel{s:Sh α}{fl:bA}(h:mO s K N v l fl):(m9 s).rel K.ah.get (λ f=>f<N) l [v]:=by obtain⟨hN,cs,h1,h2⟩:=h;exact⟨v,cs,Q,h1.Pk (λ f e u=>by have:=hN f e;omega),λ i a A=>s.sub (λ f y=>.inl y) (h2 i a A)⟩
def mO.nil(s:Sh α)(K:aj)(N:R):mO s K N .aq [] none:=⟨λ f e=>bk,[],⟨aw,.inl ⟨Q,Q,Q⟩⟩,λ i a u=>by simp at u⟩
theorem mO.keep{s:Sh α}{fl:bA}(h:mO s K N v l fl)(k:Fr fm K K')(hm:∀f,fm=O f->f<N):mO s K' N v l fl:=by
 obtain⟨hN,cs,h1,h2⟩:=h;refine⟨hN,cs,h1.keep k ?_,λ i a u=>s.keep k (λ f e=>.inl (hm f e)) (h2 i a u)⟩;cases fl;.exact .inl Q
 rename_i f;grind
theorem mO.push{s:Sh α}(g:Good K){bytes:R}{fl:bA}(h:mO s K N v l fl)(hs:0<s.sz){cells:aF}(ha:s.rel K.ah.get (λ f=>f<N\/fl=O f) a cells)
 (hb:(l.length+1)*bytes<=lg) (Z:l.length+1<=lg) (af:N<=K.ae):
 ∃F K' y,gM K s.sz bytes v 1 cells=O (F,K')/\mO s K' N F (l++[a]) y/\Fr fl K K'/\Good K':=by
 obtain⟨hN,cs,h1,h2⟩:=h;have A:=s.len ha;obtain⟨F,K',y,ab,ho,Y,g',S⟩:=yp g hs h1 aa (s.one ha) hb Z;refine⟨F,K',y,ab,⟨λ f e=>?_,cs++cells,by simpa using ho,λ i b D=>?_⟩,Y,g'⟩;.grind
 .have J:∀{b} {c},s.rel K.ah.get (λ f=>f<N\/fl=O f) b c->s.rel K'.ah.get (λ f=>f<N\/y=O f) b c:=by
   intro b c hr;rcases S with rfl|⟨f',ad⟩
   .exact s.keep Y (λ f e=>.inr e) hr
   ·
    have M:s.rel _ (λ f=>(f<N\/fl=O f)\/f'=f) b c:=s.ot (λ u r hu h=>by
     rcases h with h|h
     .exact h
     have:=(g.wf u r hu).2;omega) hr
    exact s.sub (λ f h=>by grind) (s.keep Y (λ f e=>.inl (.inr e)) M)
  by_cases hi:i<l.length
  .have ac:i*s.sz+s.sz<=cs.length:=by rw[h1.1];have:=uI s.sz (aa:i+1<=l.length);grind
   grind[aio]
  have P:i=l.length:=by grind
  subst P;simp at D;subst D;rw[anj h1.1 A];exact J ha
end
section
variable{v:au}
variable{P:aA}
theorem acn{x:R}(h:aQ g x off n=O cs){c:R}(u:c+m<=n):aQ g x (off+c) m=O ((cs.drop c).take m):=by
 unfold aQ at h⊢;split at h;.cases h
 grind[iT,hP,List.drop_take,acs]
def Sh.elem{s:Sh α}(h:(m9 s).rel g S l [v])(F:i<l.length){j:TypeInfo}(A:P.underlying t=O (.slice e))(D:P.info? e=O j)(u:j.size=s.sz):
 ∃x off cs,(∀k,iL P t v (.int k (.ofNat i))=O (.ptr x off))/\s.rel g S l[i] cs/\aQ g x off s.sz=O cs/\∀c m,c+m<=s.sz->aQ g x (off+c) m=O ((cs.drop c).take m):=by
 obtain⟨K,ds,⟨⟩,h1,h2⟩:=h;obtain⟨x,off,hx,y,_⟩:=h1.read.index F A D u;exact⟨x,off,iF ds _ i,hx,h2 i _ aw,y,λ c m J=>acn y J⟩
def Sh.dh{s:Sh α}(h:(m9 s).rel g S l [v])(u:P.underlying t=O (.slice e)):Abs.dh P t v=O (.int .i64 (.ofNat l.length)):=by obtain⟨y,ds,⟨⟩,h1,h2⟩:=h;exact h1.read.dh u
def agH(s:Sh α)(g:fE)(S:vH):(m9 s).rel g S [] [.aq]:=⟨.aq,[],Q,⟨aw,.inl ⟨Q,.inl Q⟩⟩,λ i a h=>by simp at h⟩
theorem aeI{s:Sh α}(h:(m9 s).rel g S l cs):∃v,cs=[v]/\v.cells=[v]/\v.dm=true:=by obtain⟨v,ds,rfl,h1,h2⟩:=h;obtain⟨_,⟨_,rfl|rfl⟩|⟨x,off,r,rfl,_⟩⟩:=h1<;>exact⟨_,Q,Q,Q⟩
end
def aj8{k:jT}{a b:U}(u:b≠0):cY P .rem t (.int k a) (.int k b)=O (.int k (a.tmod b)):=by have e:Go.binOp .rem t (.int k a) (.int k b)=(if k≠k then(stuck "BinOp: operands of different kinds":Sem Value)else ahn .rem k a b):=rfl;show uB (Go.binOp .rem t (.int k a) (.int k b))=_;rw[e,aR (λ h=>h Q)];unfold ahn;rw[aR u];rfl
def zG(h:a.dm=V):a.cells=[a]:=by cases a<;>first|rfl|cases h
def AP:Tryz.prog.info? 4=O Tryz.t4:=aH
def cm.one{H:aj}(h:cm H sz n s cs fm):s.dm=true:=by obtain⟨_,⟨rfl,_⟩|⟨v,r,rfl,_⟩⟩:=h<;>rfl
section
variable{a:axW 64}
def nt:R->iu->aK->aK
 |_,[],o=>o
 |i,b::l,o=>nt (i+1) l (if b then o++[(i:U)]else o)
def ajh(u:n<64):cY af .shr t (.int .u64 (a.toNat:U)) (.int .i64 (gu n))=O (.int .u64 ((a>>>n).toNat:U)):=by
 have:adx .shr .u64 (a.toNat:U) .i64 (n:U)=pure (.int .u64 ((a.toNat:U).fdiv (2^(min (n:U).toNat IntKind.u64.bits)))):=by unfold adx;rw[aR aa]
 show uB (adx .shr .u64 (a.toNat:U) .i64 (n:U))=_;rw[this];show O (au.int .u64 _)=_
 congr 2
 rw[BitVec.toNat_ushiftRight,aKa,KP,show min n IntKind.u64.bits=n from Ow (OH u),aKm _ (Int.le_of_lt (Int.pow_pos cB)),Int.natCast_ediv,Int.natCast_pow];rfl
def anh:cY af .and t (.int .u64 (a.toNat:U)) (.int .u64 1)=O (.int .u64 ((a&&&1#64).toNat:U)):=by show O (au.int .u64 (H5 .u64 (ac9 64 (a.toNat:U)&&&ac9 64 (((1#64).toNat:R):U)).toNat))=_;rw[aeW,aeW,ayZ]
def ag5{a:R}(u:a<64):cY af .rem t (.int .i64 (gu a)) (.int .i64 64)=O (.int .i64 (gu a)):=by rw[aj8 cB];show O (au.int .i64 ((a:U).tmod 64))=_;rw[Int.tmod_eq_of_lt aa aa];rfl
def Bb(a:axW 64)(i:R):Bool:=decide ((((a>>>i)&&&1#64).toNat:U)=1)
def vQ(a:axW 64)(o n:R):iu:=(List.range n).map λ i=>Bb a (o+i)
theorem YS:(vQ a o n).length=n:=by simp[vQ]
end
section
variable{ng:R}{aae:bg}
def jw(l:iu):aF:=l.map au.bool
theorem GK(l:iu):(jw l).length=l.length:=by simp[jw]
def aJ9(l:iu):(jw l).all au.dm=true:=iw.2 λ a u=>by obtain⟨b,_,rfl⟩:=lO.1 u;rfl
def ahs{c:au}(h:aQ g v off 1=O [c]):cr af g 4 (.ptr v off)=O c:=by simp only[cr,Tryz.underlying4,AP,h];rfl
def al0{H:aj}{k:U}:iC af (alloc H [ao k] V 1) [50,50] [s,.slice H.ae 0 1 X]=gM (alloc H [ao k] V 1) 1 8 s 1 [ao k]:=by refine ack (x:=.slice H.ae 0 1 X) Q ?_;have u:=(mK H [ao k] V 1).row;simp+decide only[er,aQ,u];rfl
theorem aq3{H:aj}(g:Good H){s:au}{bs:iu}(hs:jX H.ah.get 1 bs.length s (jw bs))(hb:bs.length<=1000):
 ∃r,fp af ng aae 44 [s] H r/\∃fm,cm r.2 1 (nt 0 bs []).length r.1 (ints (nt 0 bs [])) fm/\lq H fm/\Fr X H r.2/\Good r.2:=by
 refine lp azz Q ?_;show bB af ng aae 20 _ _ _ _;have a0:ai (eH [s] 0 .nil) 0=s:=rfl;refine aB (aS (H':=H) (λ T=>agl) a0 ?_);intro T1 _ k1;have b0:=aL k1 a0;refine aB (aS (H':=H) (λ T=>ai T 3=.aq) b0 ?_);intro T2 t3 k2;have c0:=aL k2 b0;refine aB (aB (aS (H':=H) (λ T=>ai T 4=aW 0) c0 ?_));intro T3 P k3;obtain⟨d0,d3⟩:=jA k3 c0 t3;refine gR (pq (λ m T K=>∃(i:R) (o:aK) (x:au) (fm:bA),m+i=bs.length/\nt i (bs.drop i) o=nt 0 bs []/\o.length<=i/\cm K 1 o.length x (ints o) fm/\lq H fm/\Fr X H K/\Good K/\ai T 0=s/\ai T 3=x/\ai T 4=aW i) ?_ bs.length _ _ ⟨0,[],.aq,X,aa,Q,aZ _,⟨by simp[ints],.inl ⟨Q,Q,Q⟩⟩,λ f e=>bk,Fr.refl _ _,g,d0,d3,P⟩)
 rintro m T K ⟨i,o,x,fm,hm,u,al,ho,F,y,gk,u0,u3,u4⟩
 have Y:=hs.keep y;refine aB (aB (aS (H':=K) (λ T=>ai T 8=.bool (decide (gu i<gu bs.length))) (jG u0 u4 (Y.dh yk)) ?_));intro T4 t8 k4;obtain⟨v0,v3,v4⟩:=pB k4 u0 u3 u4;refine eX (by rw[fQ,t8]) (λ D=>?_) (λ Z=>?_)
 .have D:i<bs.length:=bP;have hx:bs[i]? =O bs[i]:=eg D;have N:bs.drop i=bs[i]::bs.drop (i+1):=uL D;rw[N]at u;simp only[nt]at u;obtain⟨v,off,ac,_,A⟩:=Y.index D yk AP Q;have A:=A 0 (.bool bs[i]) aa (by simp[jw,hx]);rw[sK]at A;have ld:=ahs A;refine fZ (aB (gR (aB (aS (H':=K) (λ T=>ai T 14=.bool bs[i]) (nP v0 v4 ac ld) ?_))));intro T5 ab k5;obtain⟨w0,w3,w4⟩:=pB k5 v0 v3 v4;have J:∀{t:bj},cY af .add t (aW i) (ao 1)=O (aW (i+1)):=uZ aa;refine eX (by rw[fQ,ab]) (λ ad=>?_) (λ ag=>?_)
  .rw[aY ad]at u;have g1:=jb gk [aW i] V 1;have f1:=iv gk [aW i] V 1;obtain⟨s2,K2,ak,q1,q2,q3,q4,q5⟩:=yp (k:=1) (bytes:=8) (new:=[aW i]) g1 cB (ho.nQ f1) Q Q mE mE;have M:=al0 (H:=K) (s:=x) (k:=gu i);rw[q1]at M;refine aS (H':=K2) (λ T=>ai T 3=s2) (nP w3 w4 @Hl M) ?_;intro T6 t3 k6;have x4:=aL k6 w4;refine aS (H':=K2) (λ T=>ai T 4=aW (i+1)) (iy x4 @J) ?_;intro T7 P S;refine⟨m- 1,aa,i+1,o++[(i:U)],s2,ak,aa,u,gD,?_,?_,(y.trans f1).jv g q3 F,q4,aL S (aL k6 w0),aL S t3,P⟩;.grind[Xw]
   rcases q5 with rfl|⟨f,h1,rfl⟩
   .exact F
   intro f' e;cases e;have:=y.ae;grind[alloc]
  rw[aR (by simp[ag])]at u;refine fZ (aS (H':=K) (λ T=>ai T 4=aW (i+1)) (iy w4 @J) ?_);intro T7 P S;exact⟨m- 1,aa,i+1,o,x,fm,aa,u,aa,ho,F,y,gk,aL S w0,aL S w3,P⟩
 .have Z:i=bs.length:=CL;subst Z;rw[List.drop_length]at u;have u:o=nt 0 bs []:=u;subst u;refine mY ?_;show bB af ng aae 20 _ _ _ _;refine aB (aS (H':=K) (λ T=>ai T 2=x) v3 ?_);intro T8 t2 _;exact iZ ⟨aw,[_],Q,fm,by grind[qc],F,y,gk⟩
end
section
variable{ng:R}{aae:bg}
def FL:Tryz.prog.info? 50=O Tryz.t50:=aH
def BP{c:au}(h:aQ g v off 1=O [c]):cr af g 50 (.ptr v off)=O c:=by simp only[cr,pv,FL,h];rfl
def afY(aae:bg):Prop:=∀(H:aj) (s:au) (bs:iu),Good H->jX H.ah.get 1 bs.length s (jw bs)->bs.length<=1000->∃r,aae 44 [s] H=O r/\∃fm,cm r.2 1 (nt 0 bs []).length r.1 (ints (nt 0 bs [])) fm/\lq H fm/\Fr X H r.2/\Good r.2
def aD9{l:aF}{H:aj}:eL af aae 44 l H=aae 44 l H:=by simp only[eL,azz];rfl
def am8:Tryz.prog.info? 61=O Tryz.t61:=aH
def acQ:Tryz.prog.info? 51=O Tryz.t51:=aH
def aCC:Tryz.prog.info? 95=O Tryz.t95:=aH
def Sg{v o:R}:fO af 53 (.ptr v o) 1=O (.ptr v (o+1)):=by have h:gr Tryz.t51.size 0=false:=rfl;simp only[fO,akj,FL,acQ,h];rfl
def aAT:fO af 95 (.ptr v o) 1=O (.ptr v (o+1)):=by have h:gr Tryz.t3.size 0=false:=rfl;simp only[fO,ath,mZ,h];rfl
def av5:fO af 95 (.ptr v o) 2=O (.ptr v (o+2)):=by have h:gr Tryz.t3.size 0=false:=rfl;simp only[fO,ath,mZ,h];rfl
def PW{c:au}(h:aQ g v off 1=O [c]):cr af g 51 (.ptr v off)=O c:=by simp only[cr,aeR,acQ,h];rfl
def ZA:fW af 61=O (.agg [.aq,.aq]):=aH
def aFd:oW af 91 0 (O [])=O ([],1,O 0):=aH
def axd:∃z,fW af 4=O z/\z.cells.length=1:=⟨.bool W,aH,Q⟩
def aJB{H:aj}{x:au}{new:aF}(A:lenOf x=O n)(D:er H.ah.get 1 n x=O new):iC af H [91,91] [s,x]=gM H 1 1 s n new:=by obtain⟨z,y,u⟩:=axd;have h1:Tryz.t4.size=1:=rfl;have h2:Tryz.t4.bytes=1:=rfl;simp+decide only[iC,yk,AP,y,u,h1,h2,A,D]
def ME{H:aj}{b:mi}:dD af H 4 (.ptr v off) (.bool b)=write H v off [.bool b]:=by simp only[dD,AP];rfl
def aje{H:aj}:dD af H 61 (.ptr v off) (.agg [a,b])=write H v off [a,b]:=by simp only[dD,am8];rfl
theorem agL(h:aQ g v off 2=O [a,b]):cr af g 61 (.ptr v off)=O (.agg [a,b]):=by have u:Tryz.t61.size=2:=rfl;simp only[cr,atq,am8,u,h];rfl
def azw(D:a.dm=V)(A:b.dm=V):mc af 61 (O [(0,a),(1,b)])=O (.agg [a,b]):=by have J:a.cells=[a]:=zG D;have F:b.cells=[b]:=zG A;have y:Tryz.t50.size=1:=rfl;have u:(au.agg [.aq,.aq]).cells=[.aq,.aq]:=rfl;simp+decide only[mc,ZA,atq,fill,Dc,FL,J,F,u,eV,KO,OD,y,ny,Oz,apT,OB,rO,tP,jM,kS,gU,kR,mG,AX]
def afD:(jw (ef n V)).set i (.bool V)=jw (ef n V):=by
 have:jw (ef n V)=ef n (.bool V):=by simp[jw]
 rw[this,List.set_replicate_self]
theorem avY(aE:afY aae){H:aj}(g:Good H)(hI:bO I H.ah.get){lE:vm}{bs:iu}{s1 s2:au}(hE:RP I (.sl (lE.map Ed.c) X) sE)(oN:sN.dm=true)(oE:sE.dm=true)
 (h1:jX H.ah.get 1 n s1 (jw (ef n true))) (h2:jX H.ah.get 1 bs.length s2 (jw bs)) (hn:n<=1000) (hb:bs.length<=lE.length) (ba:lE.length<=1000) (aT:∀e∈lE,(0<=e.fr/\e.fr<n)/\(0<=e.to/\e.to<n)):
 ∃r,fp af ng aae 24 [.agg [sN,sE],s1,s2] H r/\Fr X H r.2/\Good r.2/\∃a b fa fb,r.1=.agg [a,b]/\cm r.2 1 (nt 0 (ef n true) []).length a (ints (nt 0 (ef n true) [])) fa/\lq H fa/\cm r.2 1 (nt 0 bs []).length b (ints (nt 0 bs [])) fb/\lq H fb:=by
 refine lp azA Q ?_;show bB af ng aae 43 _ _ _ _;have a0:ai (eH [.agg [sN,sE],s1,s2] 0 .nil) 0=.agg [sN,sE]:=rfl;have a1:ai (eH [.agg [sN,sE],s1,s2] 0 .nil) 1=s1:=rfl;have a2:ai (eH [.agg [sN,sE],s1,s2] 0 .nil) 2=s2:=rfl;have M:(au.agg [sN,sE]).cells=[sN,sE]:=rfl;have aV:(au.agg [.aq,.aq]).cells=[.aq,.aq]:=rfl;have f0:=iv g [sN,sE] true 1;have g0:=jb g [sN,sE] true 1;have f1:=iv g0 [.aq,.aq] true 1;have g1:=jb g0 [.aq,.aq] true 1;have o3:=(mK H [sN,sE] true 1).keep f1 aw;have o6:=mK (alloc H [sN,sE] true 1) [.aq,.aq] true 1;generalize ay:alloc (alloc H [sN,sE] true 1) [.aq,.aq] true 1=D at*;have a9:D.ae=H.ae+2:=by rw[<-ay];rfl
 have al:(alloc H [sN,sE] true 1).ae=H.ae+1:=rfl;rw[al]at o6;refine aB (aS (H':=D) (λ T=>ai T 3=.ptr H.ae 0/\ai T 6=.ptr (H.ae+1) 0) (AQ a0 M @ZA aV ay al) ?_)
 rintro T1 ⟨t3,t6⟩ k1
 obtain⟨b1,b2⟩:=jA k1 a1 a2;have gl:=jb g1 [] true 1;have fl:=iv g1 [] true 1;have ol:cm (alloc D [] true 1) 1 0 (.slice D.ae 0 0 X) [] (O D.ae):=⟨Q,.inr ⟨_,_,Q,mK D [] true 1,Q,aw,aw,Q⟩⟩;have aX:(jw (ef n true)).length=n:=by rw[GK,mw]
 obtain⟨x,K0,fm0,q1,q2,q3,q4,q5⟩:=yp (k:=n) (bytes:=1) (new:=jw (ef n true)) gl cB ol (by rw[aX];omega) (aJ9 _) mE mE;rw[Ew,mG]at q2;have az:jX (alloc D [] true 1).ah.get 1 n s1 (jw (ef n true)):=((h1.keep f0).keep f1).keep fl;have S:=aJB (s:=.slice D.ae 0 0 X) az.lenOf az.cells;rw[q1]at S;have aC:lq D (O D.ae):=λ f e=>(by cases e;exact aZ _)
 have a7:Fr X D K0:=fl.jv g1 q3 aC
 have aD:lq D fm0:=by
  rcases q5 with rfl|⟨f,h1,rfl⟩
  .exact aC
  intro f' e;grind[alloc]
 refine aB (aS (H':=K0) (λ T=>ai T 7=x) (jG @b1 @aFd S) ?_);intro T2 t7 k2;obtain⟨c2,c3,c6⟩:=pB k2 b2 t3 t6;refine aB (aB (aS (H':=K0) (λ T=>ai T 8=aW 0) c2 ?_));intro T3 t8 k3;obtain⟨d2,d3,d6,d7⟩:=xu k3 c2 c3 c6 t7;refine gR (pq (λ m T K=>∃(i:R),m+i=bs.length/\cm K 1 n x (jw (ef n true)) fm0/\Fr X D K/\Good K/\ai T 2=s2/\ai T 3=.ptr H.ae 0/\ai T 6=.ptr (H.ae+1) 0/\ai T 7=x/\ai T 8=aW i) ?_ bs.length _ _ ⟨0,aa,q2,a7,q4,d2,d3,d6,d7,t8⟩)
 rintro m T K ⟨i,hm,ho,A,gk,u2,u3,u6,u7,u8⟩
 have ab:jX K.ah.get 1 bs.length s2 (jw bs):=((h2.keep f0).keep f1).keep A;refine aB (aB (aS (H':=K) (λ T=>ai T 15=.bool (decide (gu i<gu bs.length))) (jG u2 u8 (ab.dh yk)) ?_));intro T4 aK k4;obtain⟨v2,v3,v6,v7,v8⟩:=nR k4 u2 u3 u6 u7 u8;refine eX (by rw[fQ,aK]) (λ Z=>?_) (λ bb=>?_)
 .have Z:i<bs.length:=bP;have hx:bs[i]? =O bs[i]:=eg Z;obtain⟨v,off,aR,_,F⟩:=ab.index Z yk AP Q;have F:=F 0 (.bool bs[i]) aa (by simp[jw,hx]);rw[sK]at F;have ld:=ahs F;have N:∀{t:bj},cY af .add t (aW i) (ao 1)=O (aW (i+1)):=uZ aa;refine fZ (aB (gR (aB (aS (H':=K) (λ T=>ai T 21=.bool bs[i]) (nP v2 v8 aR ld) ?_))));intro T5 aJ k5;obtain⟨w2,Y,w6,w7,w8⟩:=nR k5 v2 v3 v6 v7 v8;refine eX (by rw[fQ,aJ]) (λ bc=>?_) (λ bd=>?_)
  .have aU:i<lE.length:=aa;have he:(lE.map Ed.c)[i]? =O lE[i].c:=by grind[List.getElem?_eq_getElem]
   have a6:bO I K.ah.get:=λ u r e=>A.row u r (f1.row u r (f0.row u r (hI u r e) aw) aw) aw
   have av:aQ K.ah.get H.ae (0+1) 1=O [sE]:=by have hr:=A.row _ _ o3.row aw;simp+decide only[aQ,hr];rfl
   obtain⟨y,o,x1,x2⟩:=Hy a6 hE he aeR aCC Q;obtain⟨c1,ar,ak⟩:=x2 1 (eI lE[i].fr) Q;obtain⟨c2,ap,ag⟩:=x2 2 (eI lE[i].to) Q;simp only[RP]at ak ag;obtain⟨rfl,_⟩:=ak;obtain⟨rfl,_⟩:=ag;obtain⟨⟨p1,p2⟩,p3,p4⟩:=aT lE[i] (qP aU);obtain⟨fr,an⟩:∃k:R,lE[i].fr=k:=⟨lE[i].fr.toNat,aa⟩;obtain⟨to,ad⟩:∃k:R,lE[i].to=k:=⟨lE[i].to.toNat,aa⟩;rw[an]at ar;rw[ad]at ap;obtain⟨v1,o1,K1,e1,e2,e3,e4,e5⟩:=cm.I5 (P:=af) gk ho (i:=fr) aa (c:=.bool true) Q yk AP Q;rw[afD]at e3;obtain⟨ac,o2,K2,z1,z2,z3,z4,z5⟩:=cm.I5 (P:=af) e5 e3 (i:=to) aa (c:=.bool true) Q yk AP Q;rw[afD]at z3;have aI:∀k,iL af 51 sE (.int k (gu i))=O (.ptr y o):=x1;have a8:∀k,iL af 91 x (.int k (fr:U))=O (.ptr v1 o1):=e1;have aG:∀k,iL af 91 x (.int k (to:U))=O (.ptr ac o2):=z1;have s1:dD af K 4 (.ptr v1 o1) (.bool true)=O K1:=by rw[ME];exact e2
   have aM:dD af K1 4 (.ptr ac o2) (.bool true)=O K2:=by rw[ME];exact z2
   refine Rb (H':=K2) (λ T=>agl) aH ?_ ?_
   ·(repeat ((first|apply fC (cf rfl)|apply jF rfl rfl rfl);simp+decide only[AB,Y,w7,w8,Sg,PW av,aI,aAT,av5,vA ar,vA ap,a8,aG,s1,aM];rfl))
    exact fX sp
   intro T6 _ k6;have y8:=aL k6 w8;refine aS (H':=K2) (λ T=>ai T 8=aW (i+1)) (iy y8 @N) ?_;intro T7 t8 J;have aY:Fr X D K2:=(A.jv g1 e4 aD).jv g1 z4 aD;exact⟨m- 1,aa,i+1,aa,z3,aY,z5,aL J (aL k6 w2),aL J (aL k6 Y),aL J (aL k6 w6),aL J (aL k6 w7),t8⟩
  refine fZ (aS (H':=K) (λ T=>ai T 8=aW (i+1)) (iy w8 @N) ?_);intro T7 t8 J;exact⟨m- 1,aa,i+1,aa,ho,A,gk,aL J w2,aL J Y,aL J w6,aL J w7,t8⟩
 .refine mY ?_;show bB af ng aae 43 _ _ _ _;have aP:jX K.ah.get 1 (ef n true).length x (jw (ef n true)):=by rw[mw];exact ho.read
  obtain⟨⟨ra,Ka⟩,a1,fa,a2,a3,a4,a5⟩:=aE K x (ef n true) gk aP (by rw[mw];exact hn);obtain⟨⟨rb,Kb⟩,b1,fb,b2,b3,b4,b5⟩:=aE Ka s2 bs a5 (ab.keep a4) aa;simp only at a2 a4 a5 b1 b2 b4 b5;have aN:=((o6.keep A aw).keep a4 aw).keep b4 aw;have oa:ra.dm=true:=a2.one;have ob:rb.dm=true:=b2.one;obtain⟨Kc,w1,w2,Y,w4,w5⟩:=nK b5 aN (off:=0) (new:=[ra,rb]) aw (by simp[oa,ob]);have aO:dD af Kb 61 (.ptr (H.ae+1) 0) (.agg [ra,rb])=O Kc:=by rw[aje];exact w1
  refine aB (aS (H':=Kc) (λ T=>ai T 6=.ptr (H.ae+1) 0) (mN v2 v6 v7 @aD9 a1 @b1 (azw oa ob) aO) ?_);intro T8 t6 _;have F:aQ Kc.ah.get (H.ae+1) 0 2=O [ra,rb]:=by simp+decide only[aQ,w2.row];rfl
  refine iZ ⟨aw,[.agg [ra,rb]],?_,?_⟩;.show eG af Kc.ah.get T8 [.cell 6 61]=_;grind[eG,agL]
  have am:∀f,O f=O (H.ae+1)->D.ae<=f->False:=λ f e h=>by cases e;omega
  have na:fa=X\/fa≠O (H.ae+1):=by
   rcases fa with _|f
   .exact .inl Q
   right;intro e;exact am f e (by have:=a3 f Q;have:=A.ae;omega)
  have nb:fb=X\/fb≠O (H.ae+1):=by
   rcases fb with _|f
   .exact .inl Q
   right;intro e;exact am f e (by have:=b3 f Q;have:=A.ae;have:=a4.ae;omega)
  have ax:Fr X H Kc:=by have h1:Fr X H Kb:=(((f0.trans f1).trans A).trans a4).trans b4;exact h1.jv g Y (λ f e=>bP)
  refine⟨ax,w5,ra,rb,fa,fb,Q,(a2.nQ b4).keep Y na,λ f e=>?_,b2.keep Y nb,λ f e=>?_⟩;.have:=a3 f e;have:=A.ae;omega
  have:=b3 f e;have:=A.ae;have:=a4.ae;omega
end
def axl{k:jT}{a b:U}(u:b≠0)(h0:II k<=a.tdiv b)(h1:a.tdiv b<=FY k):cY P .quo t (.int k a) (.int k b)=O (.int k (a.tdiv b)):=by have e:Go.binOp .quo t (.int k a) (.int k b)=(if k≠k then(stuck _)else ahn .quo k a b):=rfl;show uB _=_;rw[e,aR (λ h=>h Q)];unfold ahn;rw[aR u];show O _=_;rw[Qe h0 h1]
def alr{a b:U}(u:0<=a/\a<=255)(y:0<b):cY P .quo t (.int .u8 a) (.int .u8 b)=O (.int .u8 (a.tdiv b))/\0<=a.tdiv b/\a.tdiv b<=255:=by have h0:0<=a.tdiv b:=Int.tdiv_nonneg u.1 aa;have h1:a.tdiv b<=255:=apQ ((aKj u.1)▸Int.ediv_le_self _ u.1) u.2;exact⟨axl aa h0 h1,h0,h1⟩
def Ic{k:jT}{a b:U}(y:0<=a)(u:0<b):cY P .rem t (.int k a) (.int k b)=O (.int k (a.tmod b))/\0<=a.tmod b/\a.tmod b<b:=⟨aj8 aa,Int.tmod_nonneg _ y,Int.tmod_lt_of_pos _ u⟩
def Pg{a:U}(u:0<=a/\a<=255):sH af 5 3 (O (.int .u8 a))=O (ao a):=by have:sH af 5 3 (O (.int .u8 a))=O _:=rfl;rw[this,FH xT]
def aH8{a b:U}(h:sP (a-b)):cY P .sub t (ao a) (ao b)=O (ao (a-b)):=SF h
def aJj{a b:U}(h:sP (a+b)):cY P .add t (ao a) (ao b)=O (ao (a+b)):=Ir h
def ab6{s:jo}(h:i<s.length):kU af g 9 (.str s) (O (aW i)) (O (aW (i+1)))=O (.str [s[i]]):=by
 have e:(s.drop i).take (i+1-i)=[s[i]]:=by rw[uL h,(aa:i+1-i=1),kS,jM]
 simp only[kU,Tryz.underlying9,oM,cD (mS i),cD (h),e]
def ahM:Tryz.prog.info? 83=O Tryz.t83:=aH
def awQ:Tryz.prog.info? 5=O Tryz.t5:=aH
def azy:Tryz.prog.info? 87=O Tryz.t87:=aH
def aBo:Tryz.prog.info? 34=O Tryz.t34:=aH
def aaH(h:i<2):iL af 83 (.ptr v off) (aW i)=O (.ptr v (off+i)):=by have u:Tryz.t5.size=1:=rfl;simp[iL,awQ,u,cD (h),OF]
def ams:iL af 83 (.ptr v off) (ao 0)=O (.ptr v (off+0)):=aaH cB
def XM{v off:R}:iL af 83 (.ptr v off) (ao 1)=O (.ptr v (off+1)):=aaH cB
def Ob{c:au}(h:aQ g v off 1=O [c]):cr af g 5 (.ptr v off)=O c:=by rw[cr,h];rfl
def ayB(h:aQ g v off 2=O cs):cr af g 83 (.ptr v off)=O (.agg cs):=by have u:Tryz.t83.size=2:=rfl;simp[cr,ahM,u,h];rfl
def alc{H:aj}:dD af H 83 (.ptr v off) (.agg [a,b])=write H v off [a,b]:=rfl
def ap9:fW af 83=O (.agg [.int .u8 0,.int .u8 0]):=aH
def aww:mc af 83 (O [])=O (.agg [.int .u8 0,.int .u8 0]):=aH
def amF:fW af 49=O (.agg [.str [],ao 0,.bool W,.aq]):=aH
def aGV:fW af 85=O (.agg [.str [],ao 0,ao 0,.aq]):=aH
def atb:fW af 87=O (.agg [.str [],ao 0,ao 0,ao 0,ao 0,ao 0,ao 0]):=aH
def ahZ:fW af 34=O (.agg [.aq,.aq]):=aH
def at4{s:jo}{b:mi}:mc af 49 (O [(0,.str s),(1,ao p),(2,.bool b)])=O (.agg [.str s,ao p,.bool b,.aq]):=aH
def aAI{s:jo}{p:U}:mc af 85 (O [(0,.str s),(1,ao (-3)),(2,ao p)])=O (.agg [.str s,ao (-3),ao p,.aq]):=aH
def aAo{s:jo}{v:R}:mc af 85 (O [(0,.str s),(2,ao 1),(3,.slice v 0 2 X)])=O (.agg [.str s,ao 0,ao 1,.slice v 0 2 X]):=aH
def atY{s:jo}{q:U}:mc af 87 (O [(0,.str s),(1,ao p),(2,ao q),(4,ao (-1)),(6,ao (-1))])=O (.agg [.str s,ao p,ao q,ao 0,ao (-1),ao 0,ao (-1)]):=aH
def al8{a b c d:au}:oW af 47 1 (O [(0,.agg [a,b,c,d])])=O ([a,b,c,d],4,O 1):=aH
def axw{a b c d:au}:oW af 31 1 (O [(0,.agg [a,b,c,d])])=O ([a,b,c,d],4,O 1):=aH
def axU{c e f g:au}:oW af 32 1 (O [(0,.agg [a,b,c,d,e,f,g])])=O ([a,b,c,d,e,f,g],7,O 1):=aH
def avj{s t:jo}:oW af 55 2 (O [(0,.str s),(1,.str t)])=O ([.str s,.str t],1,O 2):=aH
theorem atw{H:aj}{c:au}:dD af H 49 (.ptr v off) (.agg [a,b,c,d])=write H v off [a,b,c,d]:=rfl
def ajn{H:aj}:dD af H 47 (.ptr v off) (.slice u 0 k X)=write H v off [.slice u 0 k X]:=rfl
def aFD{H:aj}(h:a.dm=V):dD af H 31 (.ptr v off) a=write H v off [a]:=by simp[dD,zG h];rfl
def at8{H:aj}(h:a.dm=V):dD af H 32 (.ptr v off) a=write H v off [a]:=by simp[dD,zG h];rfl
def azc{H:aj}:dD af H 34 (.ptr v off) (.agg [a,b])=write H v off [a,b]:=rfl
def azO(h:aQ g v off 4=O cs):cr af g 49 (.ptr v off)=O (.agg cs):=by have u:Tryz.t49.size=4:=rfl;simp[cr,Ko,u,h];rfl
theorem Ii(h:aQ g v off 2=O cs):cr af g 34 (.ptr v off)=O (.agg cs):=by have u:Tryz.t34.size=2:=rfl;simp[cr,aBo,u,h];rfl
def aJ5{c:au}(h:aQ g v off 1=O [c]):cr af g 32 (.ptr v off)=O c:=by rw[cr,h];rfl
def RT{v o:R}:fO af 49 (.ptr v o) 3=O (.ptr v (o+3)):=rfl
def avJ{v o:R}:fO af 49 (.ptr v o) 2=O (.ptr v (o+2)):=rfl
def aH5:fO af 34 (.ptr v o) 1=O (.ptr v (o+1)):=rfl
theorem ab0{H:aj}{cells:aF}(h:cells.length=sz):er (alloc H cells V sz).ah.get sz 1 (.slice H.ae 0 1 X)=O cells:=by have u:=(mK H cells V sz).row;grind[hP,er,aQ]
def aET:∃z,fW af 49=O z/\z.cells.length=4:=⟨_,amF,Q⟩
def aHd:∃z,fW af 87=O z/\z.cells.length=7:=⟨_,atb,Q⟩
def azi{H:aj}{x:au}{new:aF}(A:lenOf x=O n)(D:er H.ah.get 4 n x=O new):iC af H [31,31] [s,x]=gM H 4 Tryz.t49.bytes s n new:=by obtain⟨z,y,u⟩:=aET;have h1:Tryz.t49.size=4:=rfl;simp+decide [iC,Ko,y,u,h1,A,D]
def aDa{H:aj}{x:au}{new:aF}(A:lenOf x=O n)(D:er H.ah.get 7 n x=O new):iC af H [32,32] [s,x]=gM H 7 Tryz.t87.bytes s n new:=by obtain⟨z,y,u⟩:=aHd;have h1:Tryz.t87.size=7:=rfl;simp+decide [iC,azy,y,u,h1,A,D]
section
variable{hi lo:U}{n:jo}{s:Sh α}{v:au}
variable{ng:R}{aae:bg}
abbrev wh:=jo×U×U×qF
abbrev zu:=jo×U×mi×B wh
abbrev I9:=jo×U×U×U×U×U×U
def wG:Sh wh:=vE yS (vE wq (vE wq (m9 yS)))
def Gr:Sh zu:=vE yS (vE wq (vE agY (m9 wG)))
def KU:Sh I9:=vE yS (vE wq (vE wq (vE wq (vE wq (vE wq wq)))))
def Fr.Nu{A:bA}{H:aj}(g:Good H)(h:Fr A H K)(k:Fr fm K K')(y:lq H fm):Fr A H K':=by
 refine⟨λ u r hu ne=>k.row u r (h.row u r hu ne) ?_,λ f m D ne=>k.aV f m (h.aV f m D ne) ?_,fI h.ae k.ae⟩;.intro e;have:=y _ e.symm;have:=(g.wf u r hu).2;omega
 intro e;have:=y _ e.symm;have:=(g.mem f m D).1;omega
def mO.lt{fl:bA}(g:Good K)(h:mO s K N v l fl):∀f,fl=O f->f<K.ae:=by
 obtain⟨_,cs,⟨_,⟨_,_,rfl⟩|⟨u,r,_,o,_,_,_,rfl⟩⟩,_⟩:=h;.intro f e;cases e
 intro f e;cases e;exact(g.wf u r o.row).2
def mO.one{fl:bA}(h:mO s K N v l fl):v.dm=true:=by obtain⟨_,cs,h,_⟩:=h;exact h.one
def qJ.rd{H:aj}{v:R}(o:qJ H v r){n:R}(h:off+n<=r.cells.length):aQ H.ah.get v off n=O ((r.cells.drop off).take n):=by simp[aQ,o.row,cD h]
abbrev vw(p:U×U):be:=[.sc (.int .u8 p.1),.sc (.int .u8 p.2)]
def P8(p:U×U):Prop:=(0<=p.1/\p.1<=255)/\(0<=p.2/\p.2<=255)
theorem alD(A:bO I g){z:Ji}(u:RP I (.sl (z.map vw) X) a)(hi:i<z.length):
 ∃v off,(∀k,iL af 22 a (.int k (gu i))=O (.ptr v off))/\aQ g v off 2=O [.int .u8 z[i].1,.int .u8 z[i].2]:=by
 obtain⟨v,off,h1,h2⟩:=Hy A u (bP:(z.map vw)[i]? =O (vw z[i])) Tryz.underlying22 ahM Q;obtain⟨b1,q1,r1⟩:=h2 0 _ Q;obtain⟨b2,q2,r2⟩:=h2 1 _ Q;rw[RP]at r1 r2;refine⟨v,off,h1,?_⟩;unfold aQ at q1 q2⊢;cases y:g v;.rw[y]at q1;cases q1
 .rename_i r;grind[iT,acR]
abbrev Sx(u:R)(a b:au):Row:=⟨[a,b],u,0,V,W,1⟩
abbrev rw4(u:R)(a b c d:au):Row:=⟨[a,b,c,d],u,0,V,W,1⟩
def sA:jo:=[65,66,67,68,69,70]
def sU:jo:=[117,118,119,120,121,122]
def xr:jo:=[101,102,103,104,105]
def aAl:wG.rel g S (n,lo,hi,[]) [.str n,ao lo,ao hi,.aq]:=⟨[.str n],[ao lo,ao hi,.aq],Q,Q,[ao lo],[ao hi,.aq],Q,Q,[ao hi],[.aq],Q,Q,agH yS g S⟩
def awr{a b:jo}(h:g u=O r)(y:r.cells=[.str a,.str b])(A:r.sz=1)(D:¬S r.aI):(m9 yS).rel g S [a,b] [.slice u 0 2 X]:=by
 refine⟨_,[.str a,.str b],Q,⟨Q,.inr ⟨u,0,r,Q,h,D,A,y▸aZ 2,by rw[y];rfl⟩⟩,λ i x hx=>?_⟩
 match i,hx with
 |0,hx=>cases hx;rfl
 |1,hx=>cases hx;rfl
def akl{l:qF}(h:(m9 yS).rel g S l [v]):wG.rel g S (n,lo,hi,l) [.str n,ao lo,ao hi,v]:=⟨[.str n],[ao lo,ao hi,v],Q,Q,[ao lo],[ao hi,v],Q,Q,[ao hi],[v],Q,Q,h⟩
theorem anY{a:α}(h:g u=O r)(D:r.cells=cs)(y:r.sz=s.sz)(J:¬S r.aI)(F:s.rel g S a cs):(m9 s).rel g S [a] [.slice u 0 1 X]:=by
 have A:=s.len F;refine⟨_,cs,Q,⟨by simp[A],.inr ⟨u,0,r,Q,h,J,y,by rw[D];simp;omega,by grind[PN]⟩⟩,λ i x hx=>?_⟩
 match i,hx with
 |0,hx=>grind[iF]
def aBh{b:mi}{l:B wh}(h:(m9 wG).rel g S l [v]):Gr.rel g S (n,p,b,l) [.str n,ao p,.bool b,v]:=⟨[.str n],[ao p,.bool b,v],Q,Q,[ao p],[.bool b,v],Q,Q,[.bool b],[v],Q,Q,h⟩
def aq0{a b c d e f:U}:KU.rel g S (n,a,b,c,d,e,f) [.str n,ao a,ao b,ao c,ao d,ao e,ao f]:=⟨[.str n],_,Q,Q,[ao a],_,Q,Q,[ao b],_,Q,Q,[ao c],_,Q,Q,[ao d],_,Q,Q,[ao e],_,Q,Q,Q⟩
def Fr.akV{H:aj}(h:Fr X H K)(k:Fr fm K K'):Fr fm H K':=⟨λ u r hu ne=>k.row u r (h.row u r hu aw) ne,λ f m y ne=>k.aV f m (h.aV f m y aw) ne,fI h.ae k.ae⟩
def Fr.Sv{H:aj}(h:Fr fm H K)(k:Fr X K K'):Fr fm H K':=⟨λ u r hu ne=>k.row u r (h.row u r hu ne) aw,λ f m y ne=>k.aV f m (h.aV f m y ne) aw,fI h.ae k.ae⟩
end
theorem tB{es:aP}(h:RP I (.sl es X) a)(u:Tryz.prog.underlying t=O (.slice e)):dh af t a=O (ao (gu es.length)):=by
 simp only[RP]at h;rcases h with⟨rfl,rfl|rfl⟩|⟨v,off,lim,r,sz,rfl,_⟩
 .simp only[dh,u];rfl
 .simp only[dh,u];rfl
 simp only[dh,u];rfl
section
variable{a:axW 64}{l:iu}
variable{ng:R}{aae:bg}
def amw(aae:bg):Prop:=∀(I:Im) (H:aj) (lE:vm) (n:R) (bs:iu) (sN sE y u:au),Good H->bO I H.ah.get->RP I (.sl (lE.map Ed.c) X) sE->sN.dm=V->sE.dm=V->
 jX H.ah.get 1 n y (jw (ef n V))->jX H.ah.get 1 bs.length u (jw bs)->n<=1000->bs.length<=lE.length->lE.length<=1000->(∀e∈lE,(0<=e.fr/\e.fr<n)/\(0<=e.to/\e.to<n))->
 ∃r,aae 24 [.agg [sN,sE],y,u] H=O r/\Fr X H r.2/\Good r.2/\∃a b fa fb,r.1=.agg [a,b]/\cm r.2 1 (nt 0 (ef n V) []).length a (ints (nt 0 (ef n V) [])) fa/\lq H fa/\cm r.2 1 (nt 0 bs []).length b (ints (nt 0 bs [])) fb/\lq H fb
def aE9{l:aF}{H:aj}:eL af aae 24 l H=aae 24 l H:=by simp only[eL,azA];rfl
def Wd{v o:R}:fO af 53 (.ptr v o) 0=O (.ptr v (o+0)):=by have h:gr Tryz.t50.size 0=false:=rfl;simp only[fO,akj,FL,acQ,h];rfl
def atj:Tryz.prog.info? 53=O Tryz.t53:=aH
def abm{a:au}(h:aQ g v off 2=O [a,b]):cr af g 53 (.ptr v off)=O (.agg [a,b]):=by have u:Tryz.t53.size=2:=rfl;simp only[cr,akj,atj,u,h];rfl
def ayP(n:R):jS [au.bool W] n=jw (ef n W):=by
 induction n with
 |zero=>rfl
 |succ n u=>simp only[jS,u,OI];rfl
def an5(h:n<=1000):wu af 91 (O (aW n)) (O (aW n))=O (jw (ef n W),1,O n):=by have u:fW af 4=O (.bool W):=aH;have y:Tryz.t4.size=1:=rfl;have D:Tryz.t4.bytes=1:=rfl;have A:(au.bool W).cells=[.bool W]:=rfl;have h1:th (n*1) lg=true:=cD mE;have h2:th n lg=true:=cD mE;simp+decide only[wu,yk,AP,u,y,D,A,h1,h2,cD (aZ n),ayP];rfl
theorem aE4(h:∀i,i<n->Bb a i=true):vQ a 0 n=ef n true:=by apply sI;grind[vQ,ari,List.getElem?_eq_none,YS]
def Fu(a:axW 64)(o n i:R)(l:iu):Prop:=l.length=n/\∀j,j<i->l[j]? =O (Bb a (o+j))
def Fu.step{a:axW 64}{o n i:R}{l:iu}(h:Fu a o n i l)(u:i<n):Fu a o n (i+1) (l.set i (Bb a (o+i))):=by
 refine⟨by rw[zB];exact h.1,λ j y=>?_⟩;rw[apR];by_cases e:i=j;.subst e;rw[aY Q,aY (by rw[h.1];exact u)]
 rw[aR e];exact h.2 j aa
theorem Fu.done(h:Fu a o n n l):l=vQ a o n:=by
 apply sI;intro i;by_cases u:i<n;.rw[h.2 i u];grind[vQ,ari]
 rw[zC (by rw[h.1];omega),zC (by rw[YS];omega)]
def ag1{b:mi}:(jw l).set i (.bool b)=jw (l.set i b):=by simp[jw,apM]
def aqA{j:R}(h:i+j<=1000000):cY af .add t (aW i) (aW j)=O (aW (i+j)):=ajb h
theorem aEo(c24:amw aae){H:aj}(g:Good H)(hI:bO I H.ah.get){lN:aK}{lE:vm}(hN:RP I (aO lN) sN)(hE:RP I (.sl (lE.map Ed.c) X) sE)(oN:sN.dm=V)(oE:sE.dm=V)
 (hn:lN.length<=10) (hm:lE.length<=20) (aE:∀e∈lE,(0<=e.fr/\e.fr<lN.length)/\(0<=e.to/\e.to<lN.length)) (ad:∀i,i<lN.length->Bb a i=V):
 ∃r,fp af ng aae 10 [.agg [sN,sE],.int .u64 (a.toNat:U)] H r/\Fr X H r.2/\Good r.2/\∃x y fx fy,r.1=.agg [x,y]/\cm r.2 1 (nt 0 (ef lN.length V) []).length x (ints (nt 0 (ef lN.length V) [])) fx/\lq H fx/\cm r.2 1 (nt 0 (vQ a lN.length lE.length) []).length y (ints (nt 0 (vQ a lN.length lE.length) [])) fy/\lq H fy:=by
 generalize aU:lN.length=n at*;generalize aY:lE.length=m at*;refine lp Tryz.func10 Q ?_;show bB af ng aae 54 _ _ _ _;have a0:ai (eH [.agg [sN,sE],.int .u64 (a.toNat:U)] 0 .nil) 0=.agg [sN,sE]:=rfl;have a1:ai (eH [.agg [sN,sE],.int .u64 (a.toNat:U)] 0 .nil) 1=.int .u64 (a.toNat:U):=rfl;have ab:(au.agg [sN,sE]).cells=[sN,sE]:=rfl;have aG:(au.agg [.aq,.aq]).cells=[.aq,.aq]:=rfl;have f0:=iv g [sN,sE] V 1;have g0:=jb g [sN,sE] V 1;have f1:=iv g0 [.aq,.aq] V 1;have g1:=jb g0 [.aq,.aq] V 1;have o2:=(mK H [sN,sE] V 1).keep f1 aw;have o4:=mK (alloc H [sN,sE] V 1) [.aq,.aq] V 1;generalize am:alloc (alloc H [sN,sE] V 1) [.aq,.aq] V 1=D at*;have aX:D.ae=H.ae+2:=by rw[<-am];rfl
 have ag:(alloc H [sN,sE] V 1).ae=H.ae+1:=rfl;rw[ag]at o4;refine aB (aS (H':=D) (λ T=>ai T 2=.ptr H.ae 0/\ai T 4=.ptr (H.ae+1) 0) (AQ a0 ab @ZA aG am ag) ?_)
 rintro T1 ⟨t2,t4⟩ k1
 have b1:=aL k1 a1;have ac:∀{K:aj},Fr X D K->aQ K.ah.get H.ae 0 2=O [sN,sE]/\aQ K.ah.get H.ae (0+0) 1=O [sN]/\aQ K.ah.get H.ae (0+1) 1=O [sE]:=by intro K fr;have hr:=fr.row _ _ o2.row aw;refine⟨?_,?_,?_⟩<;>(simp+decide only[aQ,hr];rfl)
 have ay:dh af 50 sN=O (aW n):=by grind[tB,pv,HY]
 have az:dh af 51 sE=O (aW m):=by grind[tB,aeR,HY]
 obtain⟨S,aM,gA,fA,oA,hnA⟩:=mg g1 (jw (ef n W)) V 1;obtain⟨HB,aJ,gB,fB,oB,aV⟩:=mg gA (jw (ef m W)) V 1;have av:cm HB 1 n (.slice D.ae 0 n X) (jw (ef n W)) (O D.ae):=⟨by rw[GK,mw];omega,.inr ⟨_,_,Q,oA.keep fB aw,Q,by grind[jw,GK,abP],by grind[jw,PN,GK,abP],Q⟩⟩;have ar:cm HB 1 m (.slice S.ae 0 m X) (jw (ef m W)) (O S.ae):=⟨by rw[GK,mw];omega,.inr ⟨_,_,Q,oB,Q,by grind[jw,GK,abP],by grind[jw,PN,GK,abP],Q⟩⟩;refine aB (Sq (H':=HB) (λ T=>ai T 5=.slice D.ae 0 n X/\ai T 6=.slice S.ae 0 m X) g1.wf aH ?_ ?_)
 ·(repeat ((first|apply Qa rfl (cf rfl)|apply RO rfl (cf rfl));simp+decide only[AB,t2,Wd,Sg,BP (ac (Fr.refl _ _)).2.1,PW (ac (Fr.refl _ _)).2.2,ay,az,wM,an5 (aa:n<=1000),an5 (aa:m<=1000),aM,aJ];rfl))
  exact RM (by simp+decide only[AB,uM])
 rintro T2 ⟨t5,t6⟩ k2
 obtain⟨c1,c2,c4⟩:=pB k2 b1 t2 t4;have aP:lq D (O D.ae):=λ f e=>(by cases e;exact aZ _)
 have aN:lq D (O S.ae):=λ f e=>(by cases e;omega)
 have aR:Fr X D HB:=fA.trans fB;refine aB (aB (aS (H':=HB) (λ T=>ai T 7=aW 0) c1 ?_));intro T3 t7 k3;obtain⟨d1,d2,d4,d5,d6⟩:=nR k3 c1 c2 c4 t5 t6;refine gR (pq (λ mm T K=>∃(i:R) (l:iu),mm+i=n/\Fu a 0 n i l/\cm K 1 n (.slice D.ae 0 n X) (jw l) (O D.ae)/\cm K 1 m (.slice S.ae 0 m X) (jw (ef m W)) (O S.ae)/\Fr X D K/\Good K/\HB.ae<=K.ae/\ai T 1=.int .u64 (a.toNat:U)/\ai T 2=.ptr H.ae 0/\ai T 4=.ptr (H.ae+1) 0/\ai T 5=.slice D.ae 0 n X/\ai T 6=.slice S.ae 0 m X/\ai T 7=aW i) ?_ n _ _ ⟨0,_,aa,⟨aw,λ j hj=>aa⟩,av,ar,aR,gB,aZ _,d1,d2,d4,d5,d6,t7⟩)
 rintro mm T K ⟨i,l,hi,J,Y,w6,A,gk,aC,u1,u2,u4,u5,u6,u7⟩
 refine aB (aB (aS (H':=K) (λ T=>ai T 20=.bool (decide (gu i<gu n))) (jG u5 u7 (Y.read.dh yk)) ?_));intro T4 ap k4;obtain⟨v1,v2,v4,v5,v6,v7⟩:=Aw k4 u1 u2 u4 u5 u6 u7;refine eX (by rw[fQ,ap]) (λ F=>?_) (λ N=>?_)
 .have F:i<n:=bP;have M:∀{t:bj},cY af .add t (aW i) (ao 1)=O (aW (i+1)):=uZ aa;obtain⟨v,o,K1,e1,e2,e3,e4,e5⟩:=cm.I5 (P:=af) gk Y (i:=i) F (c:=.bool (Bb a i)) Q yk AP Q;rw[ag1]at e3;have s1:dD af K 4 (.ptr v o) (.bool (decide ((((a>>>i)&&&1#64).toNat:U)=1)))=O K1:=by rw[ME];exact e2
  refine fZ (aB (gR (iK (H':=K1) (λ T=>agl) ?_ ?_)))
  ·(repeat ((first|apply fC (cf rfl)|apply jF rfl rfl rfl);simp+decide only[AB,v1,v5,v7,ag5 (aa:i<64),ajh (aa:i<64),anh,e1,s1];rfl))
   exact fX sp
  intro T5 _ k5;have x7:=aL k5 v7;refine aS (H':=K1) (λ T=>ai T 7=aW (i+1)) (iy x7 @M) ?_;intro T6 t7 k6;have Z:=J.step F;rw[Ew]at Z;exact⟨mm- 1,aa,i+1,_,aa,Z,e3,w6.keep e4 (.inr gD),A.jv g1 e4 aP,e5,fI aC e4.ae,aL k6 (aL k5 v1),aL k6 (aL k5 v2),aL k6 (aL k5 v4),aL k6 (aL k5 v5),aL k6 (aL k5 v6),t7⟩
 .have N:i=n:=CL;subst N;rw[J.done,aE4 ad]at Y;refine mY ?_;show bB af ng aae 54 _ _ _ _;refine aB (aB (aS (H':=K) (λ T=>ai T 8=aW 0) v1 ?_));intro T5 t8 k5;obtain⟨y1,y2,y4,y5,y6⟩:=nR k5 v1 v2 v4 v5 v6;refine gR (pq (λ mm T K=>∃(j:R) (l:iu),mm+j=m/\Fu a i m j l/\cm K 1 i (.slice D.ae 0 i X) (jw (ef i V)) (O D.ae)/\cm K 1 m (.slice S.ae 0 m X) (jw l) (O S.ae)/\Fr X D K/\Good K/\ai T 1=.int .u64 (a.toNat:U)/\ai T 2=.ptr H.ae 0/\ai T 4=.ptr (H.ae+1) 0/\ai T 5=.slice D.ae 0 i X/\ai T 6=.slice S.ae 0 m X/\ai T 8=aW j) ?_ m _ _ ⟨0,_,aa,⟨aw,λ j hj=>aa⟩,Y,w6,A,gk,y1,y2,y4,y5,y6,t8⟩);clear Y w6 A gk v1 v2 v4 v5 v6 v7 u1 u2 u4 u5 u6 u7 y1 y2 y4 y5 y6 J
  rintro mm T K ⟨j,l,hj,J,Y,w6,A,gk,u1,u2,u4,u5,u6,u8⟩
  refine aB (aB (aS (H':=K) (λ T=>ai T 35=.bool (decide (gu j<gu m))) (jG u6 u8 (w6.read.dh yk)) ?_));intro T6 an k6;obtain⟨v1,v2,v4,v5,v6,v8⟩:=Aw k6 u1 u2 u4 u5 u6 u8;refine eX (by rw[fQ,an]) (λ F=>?_) (λ N=>?_)
  .have F:j<m:=bP;have M:∀{t:bj},cY af .add t (aW j) (ao 1)=O (aW (j+1)):=uZ aa;obtain⟨v,o,K1,e1,e2,e3,e4,e5⟩:=cm.I5 (P:=af) gk w6 (i:=j) F (c:=.bool (Bb a (i+j))) Q yk AP Q;rw[ag1]at e3;have s1:dD af K 4 (.ptr v o) (.bool (decide ((((a>>>(i+j))&&&1#64).toNat:U)=1)))=O K1:=by rw[ME];exact e2
   refine fZ (aB (gR (iK (H':=K1) (λ T=>agl) ?_ ?_)))
   ·(repeat ((first|apply fC (cf rfl)|apply jF rfl rfl rfl);simp+decide only[AB,v1,v5,v6,v8,Y.read.dh yk,aqA (aa:i+j<=1000000),ag5 (aa:i+j<64),ajh (aa:i+j<64),anh,e1,s1];rfl))
    exact fX sp
   intro T7 _ k7;have x8:=aL k7 v8;refine aS (H':=K1) (λ T=>ai T 8=aW (j+1)) (iy x8 @M) ?_;intro T8 t8 k8;exact⟨mm- 1,aa,j+1,_,aa,J.step F,Y.keep e4 (.inr gD),e3,A.jv g1 e4 aN,e5,aL k8 (aL k7 v1),aL k8 (aL k7 v2),aL k8 (aL k7 v4),aL k8 (aL k7 v5),aL k8 (aL k7 v6),t8⟩
  have N:j=m:=CL;subst N;rw[J.done]at w6;refine mY ?_;show bB af ng aae 54 _ _ _ _;have aI:bO I K.ah.get:=λ u r e=>A.row u r (f1.row u r (f0.row u r (hI u r e) aw) aw) aw
  have ak:(vQ a i j).length=j:=YS;obtain⟨⟨r,Ka⟩,q1,q2,q3,xa,xb,fa,fb,q4,q5,q6,q7,q8⟩:=c24 I K lE i (vQ a i j) sN sE _ _ gk aI hE oN oE Y.read (by rw[ak];exact w6.read) aa (by rw[ak];omega) aa (λ e he=>aE e he);simp only at q2 q3 q4 q5 q7;subst q4;have ax:=(o4.keep A aw).keep q2 aw;have ox:=q5.one;have oy:=q7.one;obtain⟨Kc,z1,z2,z3,z4,z5⟩:=nK q3 ax (off:=0) (new:=[xa,xb]) aw (by simp[ox,oy]);have Z:dD af Ka 61 (.ptr (H.ae+1) 0) (.agg [xa,xb])=O Kc:=by rw[aje];exact z1
  have aD:=abm (ac A).1;refine aB (aS (H':=Kc) (λ T=>ai T 4=.ptr (H.ae+1) 0) (mN v2 v4 v5 v6 aD @aE9 q1 Z) ?_);intro T7 t4 _;have aT:aQ Kc.ah.get (H.ae+1) 0 2=O [xa,xb]:=by simp+decide only[aQ,z2.row];rfl
  have a2:=A.ae;refine iZ ⟨aw,[.agg [xa,xb]],?_,?_⟩;.show eG af Kc.ah.get T7 [.cell 4 61]=_;grind[eG,agL]
  have na:fa=X\/fa≠O (H.ae+1):=by
   rcases fa with _|f
   .exact .inl Q
   right;intro e;have:=q6 f Q;cases e;omega
  have nb:fb=X\/fb≠O (H.ae+1):=by
   rcases fb with _|f
   .exact .inl Q
   right;intro e;have:=q8 f Q;cases e;omega
  have al:Fr X H Kc:=by have h1:Fr X H Ka:=((f0.trans f1).trans A).trans q2;exact h1.jv g z3 (λ f e=>bP)
  exact⟨al,z5,xa,xb,fa,fb,Q,q5.keep z3 na,λ f e=>by have:=q6 f e;omega,q7.keep z3 nb,λ f e=>by have:=q8 f e;omega⟩
end
section
variable{ng:R}{I:Im}{H K:aj}
theorem Mu:(bI m).length=m:=by simp[bI]
theorem Y8{L:aK}{x:U}(F:Good K)(N:cm K 1 L.length s (ints L) fm)(Y:L.length<=1000):
 ∃A y u,iC af (alloc K [ao x] V 1) [50,50] [s,.slice K.ae 0 1 X]=O (A,y)/\cm y 1 (L++[x]).length A (ints (L++[x])) u/\Fr fm (alloc K [ao x] V 1) y/\Good y/\(u=fm\/∃f,K.ae<=f/\u=O f):=by
 have P:=jb F [ao x] V 1;have S:=iv F [ao x] V 1;obtain⟨A,y,u,q1,q2,M,J,D⟩:=yp (k:=1) (bytes:=8) (new:=[ao x]) P cB (N.nQ S) Q Q mE mE;refine⟨A,y,u,by rw[al0];exact q1,?_,M,J,?_⟩;.grind[abY,List.length_singleton,Xw]
 .rcases D with D|⟨f,e1,e2⟩
  .exact .inl D
  exact .inr ⟨f,Nat.le_of_succ_le e1,e2⟩
theorem avU:qp (bI m)=bI m:=aKn (by grind[bI,List.pairwise_lt_range])
theorem aCp{x:R}(h:i<=x)(hx:x<m):BD (λ y=>O (decide ((x:U)=y))) i ((bI m).drop i)=O (x:U):=by
 obtain⟨d,rfl⟩:=Oy h;clear h;induction d generalizing i with
 |zero=>grind[bI,Mu,acR,BD]
 |succ d A=>
  have u:i<(bI m).length:=by rw[Mu];omega
  rw[uL u];grind[bI,BD,aik]
def atg{gl:bH}{base:fi}{m x:R}(hm:m<=1000)(hx:x<m){S:gC}:VW gl base 201 [aO (bI m),eI (x:U)] S=O (eI (x:U),S,W):=by have h:=aCp (m:=m) (x:=x) (i:=0) (kG _) hx;rw[gU]at h;exact uY akI Q Q (akP (by rw[Mu];omega) h)
def awP{u:bg}{l:aF}{H:aj}:eL af u 201 l H=u 201 l H:=by simp only[eL,Tryz.func201];rfl
def aJi(g:Good H)(hI:bO I H.ah.get){m:R}(hm:m<=8){s0 s1:au}(h0:RP I (aO (bI m)) s0)(h1:RP I (aO (bI m)) s1):
 ∃r,fp af ng (bZ ng) 155 [s0,s1] H r/\Fr X H r.2/\Good r.2/\∃a b fa fb,r.1=.tuple [a,b]/\cm r.2 1 (bI m).length a (ints (bI m)) fa/\lq H fa/\cm r.2 1 (bI m).length b (ints (bI m)) fb/\lq H fb:=by
 have aN:(bI m).length=m:=Mu;obtain⟨⟨a,K1⟩,c1,fa,c2,c3,c4,c5⟩:=ZB (ng:=ng) 0 I H (bI m) s1 g hI h1 aa;simp only at c2 c4 c5;obtain⟨K2,d1,d2,d3,d4⟩:=ajW (ng:=ng) K1 a (bI m) fa c5 c2 aa;rw[avU]at d2;have av:Fr X H K2:=c4.jv g d3 c3;refine lp Tryz.func155 Q ?_;show bB af ng (bZ ng) 32 _ _ _ _;have a0:ai (eH [s0,s1] 0 .nil) 0=s0:=rfl;have a1:ai (eH [s0,s1] 0 .nil) 1=s1:=rfl;refine aB (aS (H':=H) (λ _=>agl) a0 ?_);intro T1 _ k1;obtain⟨D,b1⟩:=jA k1 a0 a1;refine aB (aS (H':=K1) (λ T=>ai T 6=a) (jG @b1 @Rk c1) ?_);intro T2 A k2;obtain⟨D,b1⟩:=jA k2 D b1;refine aB (aS (H':=K2) (λ _=>agl) (jG A @Wl d1) ?_);intro T3 _ k3;obtain⟨D,b1,A⟩:=pB k3 D b1 A;refine aB (aS (H':=K2) (λ T=>ai T 7=.aq) sp ?_);intro T4 P k4;obtain⟨D,b1,A⟩:=pB k4 D b1 A;have aP:dh af 50 a=O (aW m):=by rw[<-aN];exact d2.read.dh pv
 refine aB (aB (aS (H':=K2) (λ T=>ai T 14=a/\ai T 15=aW m/\ai T 16=aW 0) (iy A aP) ?_))
 rintro T5 ⟨al,ak,F⟩ k5
 obtain⟨D,b1,A,P⟩:=xu k5 D b1 A P;refine gR (pq (λ mm T K=>∃(i:R) (b:au) (fb:bA),mm+i=m/\cm K 1 (bI i).length b (ints (bI i)) fb/\lq K2 fb/\Fr X K2 K/\Good K/\ai T 0=s0/\ai T 1=s1/\ai T 6=a/\ai T 7=b/\ai T 14=a/\ai T 15=aW m/\ai T 16=aW i) ?_ m _ _ ⟨0,.aq,X,aa,⟨Q,.inl ⟨Q,Q,Q⟩⟩,λ f e=>bk,Fr.refl _ _,d4,D,b1,A,P,al,ak,F⟩);clear D b1 A P al ak F k1 k2 k3 k4 k5
 rintro mm T K ⟨i,b,fb,hi,ob,N,y,gk,u0,u1,u6,u7,aG,ag,ad⟩
 refine aB (aS (H':=K) (λ T=>ai T 17=.bool (decide (gu i<gu m))) (iy ag ad) ?_);intro T6 aH k6;obtain⟨v0,v1,v6,v7,ab,aE,Z⟩:=Dn k6 u0 u1 u6 u7 aG ag ad;have M:Fr X H K:=av.trans y;refine aB (eX (by rw[fQ,aH]) (λ J=>?_) (λ ap=>?_))
 .have J:i<m:=bP;have an:∀{t:bj},cY af .add t (aW i) (ao 1)=O (aW (i+1)):=uZ aa;have ui:(ints (bI m))[i]? =O (ao (i:U)):=by simp[ints,bI,J]
  have ac:(ints (bI m))[i*1+0]? =O (ao (i:U)):=bP;have aK:=d2.nQ y;obtain⟨va,oa,x1,_,x2⟩:=aK.read.index (i:=i) aa pv mZ Q;have ld:=vA (x2 0 _ cB ac);rw[sK]at ld;refine fZ (aB (gR (aB (aS (H':=K) (λ T=>ai T 9=ao (i:U)) (nP ab Z x1 ld) ?_))));intro T7 t9 k7;obtain⟨w0,w1,w6,w7,aD,aC,az⟩:=Dn k7 v0 v1 v6 v7 ab aE Z;have hr:bu ρ0 (eh I H K) [aO (bI m),eI (i:U)] [s1,ao (i:U)]:=bJ.2 ⟨_,_,Q,by simp only[aJ];exact fD (nw g hI) _ _ h1,bJ.2 ⟨_,_,Q,by simp[aJ,jP],by simp only[bu]⟩⟩;obtain⟨x,K3,e1,e2,e3,e4,e5⟩:=yo (ng:=ng) (as0 (ng:=ng)) qY uT g hI gk M (atg (gl:=js) (base:=bs0) (m:=m) (x:=i) aa J) Q Q hr;have e5:x=ao (i:U):=by simp only[aJ]at e5;exact e5.1
  subst e5;have ax:Fr X H K3:=M.trans e3;have aQ:=RJ (I:=I) (g:=K3.ah.get) (λ u r e=>ax.row u r (hI u r e) aw) h0;obtain⟨vb,aI,y1,_,y2⟩:=aQ.index (i:=i) aa pv mZ Q;have ay:∀k,iL af 50 s0 (.int k (i:U))=O (.ptr vb aI):=y1;have am:=vA (y2 0 _ cB ac);rw[sK]at am;obtain⟨b2,K4,aR,p1,p2,p3,p4,p5⟩:=Y8 (x:=(i:U)) e2 (ob.nQ e3) (by rw[Mu];omega);have aM:bI i++[(i:U)]=bI (i+1):=by simp[bI,apO]
  rw[aM]at p2;have fl:=iv e2 [ao (i:U)] V 1;refine aS (H':=K4) (λ T=>ai T 7=b2) (mN w0 w1 w7 t9 @AX.{0} @awP e1 (nP ay am @Hl p1)) ?_;intro T8 P Y;refine aS (H':=K4) (λ T=>ai T 16=aW (i+1)) (iy (aL Y az) @an) ?_;intro T9 F S;have ar:Fr X K2 K4:=((y.trans e3).trans fl).jv d4 p3 N;refine⟨mm- 1,aa,i+1,b2,aR,aa,p2,?_,ar,p4,aL S (aL Y w0),aL S (aL Y w1),aL S (aL Y w6),aL S P,aL S (aL Y aD),aL S (aL Y aC),F⟩;rcases p5 with rfl|⟨f,q1,rfl⟩
  .exact N
  intro f' e;cases e;exact fI (y.trans e3).ae q1
 .have ap:i=m:=CL;subst ap;refine mY ?_;show bB af ng (bZ ng) 32 _ _ _ _;refine aB (aS (H':=K) (λ T=>ai T 4=a/\ai T 5=b) (iy v6 v7) ?_)
  rintro T7 ⟨t4,t5⟩ _
  refine iZ ⟨aw,[a,b],?_,M,gk,a,b,fa,fb,Q,d2.nQ y,c3,ob,λ f e=>fI av.ae (N f e)⟩;show eG af K.ah.get T7 [.tmp 4,.tmp 5]=_;simp only[eG,t4,t5]
end
section
variable{ng:R}{I:Im}{H K:aj}{G:Gh}
def awg(u:cH G (eJ []) H)(hm:m<=8)(hr:bu ρ0 G.I [aO (bI m),aO (bI m)] xs):iV 0 G [] H (bZ ng 155 xs H) (.bp [aO (bI m),aO (bI m)]) [] false:=by
 obtain⟨x,M,rfl,h1,h2⟩:=bJ.1 hr;obtain⟨y,K,rfl,A,J⟩:=bJ.1 h2;simp only[bu]at J;subst J;have h1:RP G.I (aO (bI m)) x:=by simpa only[aJ]using h1
 have A:RP G.I (aO (bI m)) y:=by simpa only[aJ]using A
 obtain⟨r,q1,q2,Z,a,b,fa,fb,F,Y,S,P,N⟩:=aJi (ng:=ng) u.gd u.gI hm h1 A;rw[nW Q q1];obtain⟨w,H'⟩:=r;simp only at F;subst F;have D:=yl qY q1;have r1:=Y.rp (I:=G.I) u.gd q2 D S (es:=(bI m).map λ n=>[eI n]) F1 FD;have r2:=P.rp (I:=G.I) u.gd q2 D N (es:=(bI m).map λ n=>[eI n]) F1 FD;refine yX u Z q2 D ?_ λ j es sz c e e2=>?_
 .simp only[aJ];exact .inr ⟨_,Q,bJ.2 ⟨a,[b],Q,by simpa only[aJ]using r1,bJ.2 ⟨b,[],Q,by simpa only[aJ]using r2,by simp only[bu]⟩⟩⟩
 match j with
 |0=>cases e
 |j+1=>cases e
def aew:Tryz.prog.info? 56=O Tryz.t56:=aH
def alS:Tryz.prog.info? 57=O Tryz.t57:=aH
def az6{v o:R}:fO af 59 (.ptr v o) 1=O (.ptr v (o+2)):=by have h:gr Tryz.t56.size 0=false:=rfl;simp only[fO,aj9,aew,h];rfl
def aB4:fO af 59 (.ptr v o) 2=O (.ptr v (o+3)):=by have h:gr Tryz.t3.size 0=false:=rfl;simp only[fO,aj9,mZ,h];rfl
def atX{v o:R}:fO af 59 (.ptr v o) 3=O (.ptr v (o+4)):=by have h:gr Tryz.t57.size 0=false:=rfl;simp only[fO,aj9,alS,h];rfl
def az4{c:au}(h:aQ g v off 1=O [c]):cr af g 56 (.ptr v off)=O c:=by simp only[cr,atv,aew,h];rfl
def ayM{c:au}(h:aQ g v off 1=O [c]):cr af g 57 (.ptr v off)=O c:=by simp only[cr,att,alS,h];rfl
def aF4:wu af 50 (O (ao 0)) (O (ao 0))=O ([],1,O 0):=aH
def aqR:wu af 91 (O (ao 0)) (O (ao 0))=O ([],1,O 0):=aH
def afa(u:Tryz.prog.underlying t=O (.slice e))(h:lenOf a=O 0):dh af t a=O (ao 0):=by
 cases a with
 |aq=>simp only[dh,u];rfl
 |eY=>simp only[dh,u];rfl
 |slice v o n lim=>cases h;simp only[dh,u];rfl
 |_=>cases h
def at2(g:Good H){c h0 h1 h2 m0 m1:au}(hc:lenOf c=O 0)(hd:lenOf d=O 0):
 ∃r,fp af ng (bZ ng) 340 [.agg [a,b,c,ao 0,d],.agg [h0,h1,h2],.agg [m0,m1]] H r/\Fr X H r.2/\Good r.2/\∃u,r.1=.tuple [.slice u 0 0 X,ao 0]/\H.ae<=u/\∃row,r.2.ah.get u=O row/\row.sz=1:=by
 refine lp Tryz.func340 Q ?_;show bB af ng (bZ ng) 86 _ _ _ _;generalize y:([au.agg [a,b,c,ao 0,d],.agg [h0,h1,h2],.agg [m0,m1]]:aF)=args;have a0:ai (eH args 0 .nil) 0=.agg [a,b,c,ao 0,d]:=by rw[<-y];rfl
 have a1:ai (eH args 0 .nil) 1=.agg [h0,h1,h2]:=by rw[<-y];rfl
 have a2:ai (eH args 0 .nil) 2=.agg [m0,m1]:=by rw[<-y];rfl
 have ap:(au.agg [a,b,c,ao 0,d]).cells=[a,b,c,ao 0,d]:=rfl;have an:(au.agg [h0,h1,h2]).cells=[h0,h1,h2]:=rfl;have am:(au.agg [m0,m1]).cells=[m0,m1]:=rfl;obtain⟨H1,al,g1,f1,o1,_⟩:=mg g [a,b,c,ao 0,d] V 1;obtain⟨H2,ak,g2,f2,_⟩:=mg g1 [h0,h1,h2] V 1;obtain⟨F,ag,g3,f3,_⟩:=mg g2 [m0,m1] V 1
 have A:∀{K:aj},Fr X F K->∀{i:R} {x:au},[a,b,c,ao 0,d][i]? =O x->aQ K.ah.get H.ae (0+i) 1=O [x]:=by
  intro K fr i x hx;have J:=fr.row _ _ (f3.row _ _ (f2.row _ _ o1.row aw) aw) aw
  match i,hx with
  |0,hx=>cases hx;simp+decide only[aQ,J];rfl
  |1,hx=>cases hx;simp+decide only[aQ,J];rfl
  |2,hx=>cases hx;simp+decide only[aQ,J];rfl
  |3,hx=>cases hx;simp+decide only[aQ,J];rfl
  |4,hx=>cases hx;simp+decide only[aQ,J];rfl
 refine aB (aS (H':=F) (λ T=>ai T 3=.ptr H.ae 0) (mN a0 a1 a2 ap an am al (iy ak ag)) ?_);intro T1 t3 k1;obtain⟨H4,ad,g4,f4,o4,_⟩:=mg g3 [] V 1;have M:=iv g4 [] V 1;have g5:=jb g4 [] V 1;have o5:=o4.keep M aw;generalize ac:alloc H4 [] V 1=D at*;refine aB (Sq (H':=D) (λ T=>ai T 8=.slice F.ae 0 0 X) g3.wf aH ?_ ?_)
 ·(repeat ((first|apply Qa rfl (cf rfl)|apply RO rfl (cf rfl));simp+decide only[AB,t3,aB4,vA (A (Fr.refl _ _) (i:=3) Q),wM,aF4,aqR,ad,ac];rfl))
  exact RM gW
 intro T2 t8 k2;have b3:=aL k2 t3;refine aB (aB (aS (H':=D) (λ T=>ai T 24=ao 0/\ai T 25=ao 0) (nP @b3 @az6 (az4 (A (f4.trans M) (i:=2) Q)) (afa atv hc)) ?_))
 rintro T3 ⟨aa,Z⟩ k3
 obtain⟨c3,c8⟩:=jA k3 b3 t8;refine gR (Xy (aB (aS (H':=D) (λ T=>ai T 26=.bool W) (iy aa Z) ?_)));intro T4 Y k4;obtain⟨d3,d8⟩:=jA k4 c3 c8;refine aB (eX (by rw[fQ,Y]) (λ h=>bk) (λ _=>mY ?_));show bB af ng (bZ ng) 86 _ _ _ _;refine aB (aB (aS (H':=D) (λ T=>ai T 75=ao 0/\ai T 76=ao 0) (nP d3 @atX (ayM (A (f4.trans M) (i:=4) Q)) (afa att hd)) ?_))
 rintro T5 ⟨S,P⟩ k5
 have e8:=aL k5 d8;refine gR (Xy (aB (aS (H':=D) (λ T=>ai T 77=.bool W) (iy S P) ?_)));intro T6 N k6;have e8:=aL k6 e8;refine aB (eX (by rw[fQ,N]) (λ h=>bk) (λ _=>mY ?_));show bB af ng (bZ ng) 86 _ _ _ _;refine aB (aS (H':=D) (λ T=>ai T 6=.slice F.ae 0 0 X/\ai T 7=ao 0) e8 ?_)
 rintro T7 ⟨t6,t7⟩ _
 have ab:=(((f1.trans f2).trans f3).trans f4).trans M;refine iZ ⟨aw,[.slice F.ae 0 0 X,ao 0],?_,ab,g5,F.ae,Q,?_,_,o5.row,Q⟩;.show eG af D.ah.get T7 [.tmp 6,.tmp 7]=_;simp only[eG,t6,t7]
 .exact((f1.trans f2).trans f3).ae
def as4(J:cH G (eJ []) H){a b c d e f g:aP}(hr:bu ρ0 G.I [.agg [.sl a X,.sl b X,.sl [] X,eI 0,.sl [] X],.agg [.sl c X,.sl d X,.sl e X],.agg [.sl f X,.sl g X]] xs):
 iV 0 G [] H (bZ ng 340 xs H) (.bp [.sl [] X,eI 0]) [] false:=by
 obtain⟨x,S,rfl,h1,h2⟩:=bJ.1 hr;obtain⟨y,P,rfl,M,h4⟩:=bJ.1 h2;obtain⟨z,N,rfl,h5,K⟩:=bJ.1 h4;simp only[bu]at K;subst K;simp only[aJ,bu]at h1 M h5;obtain⟨_,bs,rfl,p0,F,rfl,_,p1,l1,rfl,_,p2,l2,rfl,k2,p3,l3,rfl,k3,p4,l4,rfl,k4,rfl⟩:=h1;obtain⟨_,bs,rfl,q0,F,rfl,_,q1,l1,rfl,_,q2,l2,rfl,_,rfl⟩:=M;obtain⟨_,bs,rfl,s0,F,rfl,_,s1,l1,rfl,_,rfl⟩:=h5;obtain⟨rfl,_⟩:=k3;obtain⟨r,D,w2,w3,u,A,w5,row,Z,Y⟩:=at2 (ng:=ng) (a:=p0) (b:=p1) (h0:=q0) (h1:=q1) (h2:=q2) (m0:=s0) (m1:=s1) J.gd (YO k2) (YO k4);rw[nW Q D];obtain⟨w,H'⟩:=r;simp only at A;subst A;have dd:=yl qY D;refine yX J w3 w2 dd ?_ λ j es sz c e e2=>?_
 .simp only[aJ];refine .inr ⟨_,Q,bJ.2 ⟨_,_,Q,?_,bJ.2 ⟨_,[],Q,by simp[aJ,jP],by simp only[bu]⟩⟩⟩;simp only[aJ,RP];exact .inr ⟨u,0,X,row,1,Q,by rw[abc w5];exact Z,.inr ⟨Q,Y⟩,aw,by simp[cx]⟩
 .match j with
  |0=>cases e
  |j+1=>cases e
end
section
variable{l:aF}{zs:aK}
variable{ng:R}{I:Im}{H K:aj}{G:Gh}{aae:bg}
def ay1{l:aF}{H:aj}:eL af aae 381 l H=aae 381 l H:=by rfl
def awR{H:aj}:eL af aae 368 l H=aae 368 l H:=by rfl
def ayg{H:aj}:eL af aae 367 l H=aae 367 l H:=by rfl
def av7:acX (bZ ng):=λ H s zs fm g y A=>by obtain⟨u,H',h1,h2⟩:=ah6 0 H s zs fm g y A;exact⟨u,H',Dw h1,h2⟩
def auP(g:Good H){c:au}(M:aQ H.ah.get u off 1=O [c])(J:jX H.ah.get 1 zs.length c (ints zs))(P:zs.length<=1000):
 ∃s K fm,bZ ng 381 [.func 382 [] [.ptr u off]] H=O (s,K)/\cm K 1 zs.length s (ints zs) fm/\lq H fm/\Fr X H K/\Good K:=by
 have F:=J.cells;by_cases h0:zs=[]
 .subst h0;obtain⟨r,h1,h2⟩:=Gg (Rqq:=kW) (.Ga M F J.lenOf)
  have:r=(.aq,H):=by
   cases h2 with
   |Ga=>rfl
   |G7 y D A _ N=>
    rw[M]at y;cases y;rw[J.lenOf]at A;cases A;rw[F]at D;exact absurd (JP (tO D)).symm N
  subst this;exact⟨_,_,X,Dw (k:=1) (GO cB h1),⟨rfl,.inl ⟨rfl,rfl,rfl⟩⟩,λ f e=>bk,Fr.refl _ _,g⟩
 .obtain⟨r,h1,h2⟩:=Gg (Rqq:=kW) (.G7 M F J.lenOf P h0)
  have:r=(.slice H.ae 0 zs.length X,alloc H (gZ zs) W 1):=by
   cases h2 with
   |Ga y D A=>
    rw[M]at y;cases y;rw[J.lenOf]at A;cases A;rw[F]at D;exact absurd (JP (tO D)) h0
   |G7 y D A _ N=>
    rw[M]at y;cases y;rw[J.lenOf]at A;cases A;rw[F]at D;obtain rfl:=JP (tO D);rfl
  subst this;refine⟨_,_,O _,Dw (k:=1) (GO cB h1),⟨EB,.inr ⟨_,_,rfl,mK H (ints zs) W 1,rfl,EB,?_,rfl⟩⟩,λ f e=>(by cases e;exact aZ _),iv g _ _ _,jb g _ _ _⟩;rw[mT EB]
def aHg(g:Good H)(A:a.cells=[a]):∃r,fp af ng (bZ ng) 368 [a] H r/\r=(.func 382 [] [.ptr H.ae 0],alloc H [a] V 1):=by refine lp Tryz.func368 Q ?_;have D:ai (eH [a] 0 .nil) 0=a:=rfl;refine aB (aS (λ T=>ai T 1=.ptr _ 0) (iy D A) ?_);intro M y J;refine aB (aS (λ T=>ai T 2=.func _ [] _) y ?_);intro K u F;refine iZ ⟨aw,[.func _ [] _],?_,Q⟩;simp[eG,u]
def aHJ(g:Good H){c:au}(N:aQ H.ah.get u off 1=O [c])(P:jX H.ah.get 1 zs.length c (ints zs))(A:zs.length<=1000):
 ∃r,fp af ng (bZ ng) 367 [.func 382 [] [.ptr u off]] H r/\∃fm,cm r.2 1 zs.length r.1 (ints (qp zs)) fm/\lq H fm/\Fr X H r.2/\Good r.2:=by
 obtain⟨s,K,fm,c1,Z,D,Y,S⟩:=auP (ng:=ng) g N P A;obtain⟨K2,d1,d2,d3,d4⟩:=ajW (ng:=ng) K s zs fm S Z A;refine lp Tryz.func367 Q ?_;show bB af ng _ 9 _ _ _ _;have a0:ai (eH [.func 382 [] _] 0 .nil) 0=.func 382 [] [.ptr u off]:=rfl;refine aB (aS _ sp ?_);intro T1 _ M;refine aB (aS (λ T=>ai T 3=s) (jG (aL M a0) @ay1 c1) ?_);intro T2 y k2;refine aB (aS _ (jG y @Wl d1) ?_);intro T3 _ J;refine aB (aS (λ T=>ai T 2=s) (aL J y) ?_);intro T4 F k4;refine iZ ⟨aw,[s],?_,fm,d2,D,Y.jv g d3 D,d4⟩;simp[eG,F]
def IY(z:aK):Bool:=decide (((Lib.compact (qp z)).length:U)<z.length)
def aHj(g:Good H){z:aK}(hz:z.length<=1000)(A:jX H.ah.get 1 z.length a (ints z)):∃r,fp af ng (bZ ng) 338 [a] H r/\r.1=.bool (IY z)/\Fr X H r.2/\Good r.2:=by
 have ha:a.cells=[a]:=by obtain⟨_,⟨_,rfl|rfl⟩|⟨v,off,lim,r,rfl,_⟩⟩:=A<;>rfl
 obtain⟨_,J,rfl⟩:=aHg (ng:=ng) g ha;have D:=iv g [a] V 1;have y:aQ (alloc H [a] V 1).ah.get H.ae 0 1=O [a]:=by simp only[aQ,(mK H [a] V 1).row];rfl
 obtain⟨⟨s,K⟩,Y,fm,F,S,P,N⟩:=aHJ (ng:=ng) (jb g [a] V 1) y (A.keep D) hz;have u:=LJ z;rw[<-u]at F;obtain⟨s',K',e1,e2,e3,e4⟩:=av7 (ng:=ng) K s (qp z) fm N F aa;refine lp Tryz.func338 Q ?_;show bB af ng (bZ ng) 11 _ _ _ _;have a0:ai (eH [a] 0 .nil) 0=a:=rfl;refine aB (aS (H':=H) (λ _=>agl) sp ?_);intro T1 _ Z;refine aB (iK (H':=K') (λ T=>ai T 2=.bool (IY z)) ?_ ?_)
 ·(repeat ((first|apply fC (cf rfl));simp+decide only[AB,aL Z a0,mG,ou,awR,nW vZ J,ayg,nW vZ Y,afd,e1,A.dh pv,e2.read.dh pv];rfl))
  exact fX (by simp+decide only[AB,IY];rfl)
 intro T2 M k2;refine iZ ⟨aw,[.bool (IY z)],?_,Q,((D.trans P).jv g e3 λ f e=>fI D.ae (S f e)),e4⟩;show eG af _ _ [.tmp 2]=_;simp only[eG,M]
def aGb(u:cH G (eJ []) H){z:aK}(J:z.length<=1000)(K:bu ρ0 G.I [aO z] xs):iV 0 G [] H (bZ ng 338 xs H) (eB (IY z)) [] false:=by
 obtain⟨x,A,rfl,h1,rfl⟩:=bJ.1 K;obtain⟨⟨v⟩,y,rfl,F,D⟩:=aHj u.gd J (RJ u.gI h1);rw[nW Q y];refine yX u D F (yl qY y) (by simp[aJ,jP]) λ j es sz c e e2=>?_
 match j with
 |0=>cases e
 |j+1=>cases e
end
section
variable{ng:R}{I:Im}{H K:aj}{G:Gh}{aae:bg}{t:bj}
abbrev aU(n:U):au:=.int .u64 n
def auF:cY af .and t (aU 1) (aU 4294967295)=O (aU 1):=rfl
def azj:cY af .shr t (aU 1) (aU 32)=O (aU 0):=rfl
def asa:cY af .and t (aU 0) (aU 4294967295)=O (aU 0):=rfl
def aok:cY af .shr t (aU 0) (aU 32)=O (aU 0):=rfl
def avW:cY af .mul t (aU 1) (aU 0)=O (aU 0):=rfl
def aGv:cY af .mul t (aU 0) (aU 0)=O (aU 0):=rfl
def acW:cY af .add t (aU 0) (aU 0)=O (aU 0):=rfl
def ap2:cY af .mul t (aU 0) (aU n)=O (aU 0):=by show O (au.int .u64 (H5 .u64 (0*(n:U))))=_;rw[Int.zero_mul];rfl
theorem aar(h:n<=100000):H5 .u64 (n:U)=n:=by
 have e2:∀n:U,H5 .u64 n=n%18446744073709551616:=λ _=>rfl
 rw[e2];omega
def ael(h:n<=100000):cY af .mul t (aU 1) (aU n)=O (aU n):=by show O (au.int .u64 (H5 .u64 (1*(n:U))))=_;rw[Int.one_mul,aar h]
def ayz(h:n<=100000):cY af .and t (aU n) (aU 4294967295)=O (aU n):=by
 show O (au.int .u64 (H5 .u64 ((ac9 64 (n:U)&&&ac9 64 4294967295).toNat:U)))=_
 have e:(ac9 64 (n:U)&&&ac9 64 4294967295).toNat=n:=by
  rw[BitVec.toNat_and,BitVec.ofInt_natCast];have h1:(BitVec.ofNat 64 n).toNat=n:=by rw[BitVec.toNat_ofNat];omega
  have h2:(ac9 64 4294967295).toNat=2^32- 1:=cB;rw[h1,h2,Nat.and_two_pow_sub_one_eq_mod];omega
 rw[e,aar h]
def ali(h:n<=100000):cY af .shr t (aU n) (aU 32)=O (aU 0):=by
 have e:adx .shr .u64 (n:U) .u64 32=pure (.int .u64 (ayi (n:U) (2^(min (32:U).toNat IntKind.u64.bits)))):=by unfold adx;rw[aR aa]
 show uB (adx .shr .u64 (n:U) .u64 32)=_;rw[e];show O (au.int .u64 (ayi (n:U) 4294967296))=_;rw[show ayi (n:U) 4294967296=0 by rw[aKm _ (by omega)];omega]
def asL{l:aF}{H:aj}:eL af aae 296 l H=aae 296 l H:=by simp only[eL,ay0];rfl
def aGG{l:aF}{H:aj}:eL af aae 238 l H=aae 238 l H:=by simp only[eL,ay4];rfl
def aFO(h:n<=100000):∃r,fp af ng aae 296 [aU 1,aU n] H r/\r=(.tuple [aU 0,aU n],H):=by
 refine lp ay0 Q ?_;show bB af ng aae 51 _ _ _ _;have a0:ai (eH [aU 1,aU n] 0 .nil) 0=aU 1:=rfl;have a1:ai (eH [aU 1,aU n] 0 .nil) 1=aU n:=rfl;refine aB (aS (H':=H) (λ _=>agl) sp ?_);intro T1 _ k1;obtain⟨u,b1⟩:=jA k1 a0 a1;refine aB (aS (H':=H) (λ T=>ai T 6=aU 1) (iy u @auF) ?_);intro T2 A k2;obtain⟨u,b1⟩:=jA k2 u b1;refine aB (aS (H':=H) (λ T=>ai T 7=aU 0) (iy u @azj) ?_);intro T3 y k3;obtain⟨u,b1,A⟩:=pB k3 u b1 A;refine aB (iK (H':=H) (λ T=>ai T 8=aU n) ?_ ?_)
 ·(repeat ((first|apply fC (cf rfl)|apply jF rfl rfl rfl);simp+decide only[AB,b1,ayz h];rfl))
  exact fX gW
 intro T4 K k4;obtain⟨u,b1,A,y⟩:=xu k4 u b1 A y;refine aB (iK (H':=H) (λ T=>ai T 9=aU 0) ?_ ?_)
 ·(repeat ((first|apply fC (cf rfl)|apply jF rfl rfl rfl);simp+decide only[AB,b1,ali h];rfl))
  exact fX gW
 intro T5 t9 k5;obtain⟨u,b1,A,y,K⟩:=nR k5 u b1 A y K;refine aB (iK (H':=H) (λ T=>ai T 10=aU n) ?_ ?_)
 ·(repeat ((first|apply fC (cf rfl)|apply jF rfl rfl rfl);simp+decide only[AB,A,K,ael h];rfl))
  exact fX gW
 intro T6 N k6;obtain⟨u,b1,A,y,K,t9⟩:=Aw k6 u b1 A y K t9;refine aB (iK (H':=H) (λ T=>ai T 11=aU 0) ?_ ?_)
 ·(repeat ((first|apply fC (cf rfl)|apply jF rfl rfl rfl);simp+decide only[AB,y,K,N,ap2,ali h,acW];rfl))
  exact fX gW
 intro T7 F k7;obtain⟨u,b1,A,y,t9⟩:=nR k7 u b1 A y t9;refine aB (aS (H':=H) (λ T=>ai T 12=aU 0) (iy F @asa) ?_);intro T8 D k8;obtain⟨u,b1,A,y,t9,F⟩:=Aw k8 u b1 A y t9 F;refine aB (aS (H':=H) (λ T=>ai T 13=aU 0) (iy F @aok) ?_);intro T9 J k9;obtain⟨u,b1,A,y,t9,D⟩:=Aw k9 u b1 A y t9 D;refine aB (aS (H':=H) (λ T=>ai T 12=aU 0) (xK D A t9 @avW @acW) ?_);intro ac D Y;obtain⟨u,b1,y,t9,J⟩:=nR Y u b1 y t9 J;have D:=D;refine aB (aS (H':=H) (λ T=>ai T 4=aU 0) (zA y t9 D J @aGv @acW @aok) ?_);intro ab M S;obtain⟨u,b1⟩:=jA S u b1;refine aB (iK (H':=H) (λ T=>ai T 5=aU n) ?_ ?_)
 ·(repeat ((first|apply fC (cf rfl)|apply jF rfl rfl rfl);simp+decide only[AB,u,b1,ael h];rfl))
  exact fX gW
 intro aa Z P;have M:=aL P M;refine iZ ⟨aw,[aU 0,aU n],?_,Q⟩;show eG af _ _ [.tmp 4,.tmp 5]=_;simp only[eG,M,Z]
def aAW(h:n<=100000):∃r,fp af ng (bZ ng) 238 [aU 1,aU n] H r/\r=(.tuple [aU 0,aU n],H):=by
 obtain⟨_,u,rfl⟩:=aFO (ng:=ng) (aae:=bZ ng) (H:=H) h;have u:=nW vZ u;refine lp ay4 Q ?_;show bB af ng (bZ ng) 30 _ _ _ _;have M:ai (eH [aU 1,aU n] 0 .nil) 0=aU 1:=rfl;have K:ai (eH [aU 1,aU n] 0 .nil) 1=aU n:=rfl;refine aB (aS (H':=H) (λ _=>agl) sp ?_);intro Z _ F;obtain⟨J,b1⟩:=jA F M K;refine aB (eX Q (λ h=>bk) (λ _=>fZ ?_));refine aB (aS (H':=H) (λ T=>ai T 8=aU 0/\ai T 9=aU n) (nP J @b1 @asL u) ?_)
 rintro Y ⟨y,t9⟩ P
 refine aB (aS (H':=H) (λ T=>ai T 4=aU 0/\ai T 5=aU n) (iy y t9) ?_)
 rintro S ⟨D,A⟩ N
 refine iZ ⟨aw,[aU 0,aU n],?_,Q⟩;show eG af _ _ [.tmp 4,.tmp 5]=_;simp only[eG,D,A]
end
section
variable{ex:mi}{ns:R}
variable{ng:R}{I:Im}{H K:aj}{G:Gh}{aae:bg}{t:bj}
theorem ajf{cells new:aF}(h:HEq (alloc H cells ex sz) K)(F:off+new.length<=cells.length)(D:new.all au.dm=V):∃K',write K H.ae off new=O K'/\HEq (alloc H (eV cells off new) ex sz) K':=by
 have A:K.ah.get H.ae=O ⟨cells,H.ae,0,ex,W,sz⟩:=by rw[h.ah];exact(mK H cells ex sz).row
 have J:K.aV.get H.ae=O [H.ae]:=by rw[h.aV];exact Tr.tA _ _ _
 refine⟨{K with ah:=K.ah.set H.ae (O ⟨eV cells off new,H.ae,0,ex,W,sz⟩)},?_,⟨λ u=>?_,λ f=>?_,?_⟩⟩;.grind[gr,Nat.beq_refl,write,hP,oq]
 .show(K.ah.set H.ae _).get u=(H.ah.set H.ae _).get u;rw[Tr.jg,Tr.jg];split;.rfl
  rename_i y;rw[h.ah];show(H.ah.set H.ae _).get u=_;rw[Tr.jg,aR y]
 .show K.aV.get f=_;rw[h.aV];rfl
 exact h.ae
def ahL(H:aj):HEq H H:=⟨λ _=>rfl,λ _=>rfl,Q⟩
def oQ(n k:R):aF:=ef k (ao (-1))++ef (n-k) (ao 0)
theorem LA(h:k<=n):(oQ n k).length=n:=by simp[oQ];omega
theorem aJR{c:R}(h:k<=n)(u:c<=k):((oQ n k).drop 0).take c=ef c (ao (-1)):=by grind[oQ,Nat.min_eq_left]
def aox{c:R}(h:k+c<=n):eV (oQ n k) k (ef c (ao (-1)))=oQ n (k+c):=by
 unfold eV oQ;rw[List.take_append_of_le_length aw,mT aw,mw,ad8,ad9 aw,mG,List.drop_replicate,<-List.replicate_append_replicate,mw]
 congr 2
 omega
def akH:∀n,jS (au.int .i64 0).cells n=oQ n 0
 |0=>rfl
 |n+1=>by show(au.int .i64 0).cells++jS (au.int .i64 0).cells n=_;rw[akH n];rfl
def aGZ(h:n<=100000):wu af 50 (O (aW n)) (O (aW n))=O (oQ n 0,1,O n):=by have u:fW af 3=O (ao 0):=aH;have b1:th n n=true:=cD (aZ _);have b2:th (n*Tryz.t3.bytes) lg=true:=cD (by show n*8<=1099511627776;omega);have b3:th n lg=true:=cD mE;have y:gr (au.int .i64 0).cells.length Tryz.t3.size=true:=rfl;have b5:gr Tryz.t3.size 0=false:=rfl;simp only[wu,pv,mZ,u,b1,b2,b3,y,b5,akH];rfl
def ah3{P:aA}{T:aM}{a:Array eN}{ts:Array bj}:bR P ng aae T H (.call {callee:=.builtin .copy,args:=a,argTypes:=ts})=GX P H ts.toList (ni ng T a.toList):=rfl
def alG{P:aA}{u:xC}{l:aF}:GX P H u (O l)=wR P H u l:=rfl
theorem ahi{new:aF}{c:R}(y:lenOf s=O ns)(D:min2 ns n=c)(A:er H.ah.get 1 c s=O new)(h0:new≠[]){K:aj}(u:write H v off new=O K):
 wR af H [50,50] [.slice v off n lim,s]=O (aW c,K):=by
 have e:Tryz.t3.size=1:=rfl;grind[wR,pv,mZ,lenOf]
theorem aIf(u:lenOf s=O ns)(y:er H.ah.get 1 0 s=O []):
 wR af H [50,50] [.slice v off 0 lim,s]=O (ao 0,H):=by
 have e:Tryz.t3.size=1:=rfl;have A:min2 ns 0=0:=by cases ns<;>rfl
 grind[wR,pv,mZ,lenOf]
def aCs:dh af 50 (.slice v off n lim)=O (aW n):=by simp only[dh,pv];rfl
def aoH{l h:R}{cells:aF}{aI st:R}{ro:mi}{lo hi:cR}(A:H.ah.get v=O ⟨cells,aI,st,ex,ro,1⟩)(J:cells.length=n)(h0:0<n)(u:oM lo 0=O l)(y:oM hi n=O h)(D:l<=h)(F:h<=n)(hx:l<n):
 kU af H.ah.get 50 (.slice v 0 n X) lo hi=O (.slice v l (h-l) X):=by
 obtain⟨m,rfl⟩:∃m,n=m+1:=⟨n- 1,aa⟩;have e:Tryz.t3.size=1:=rfl;have b1:th 0 (m+1)=true:=cD (kG _);have b2:th l h=true:=cD D;have b3:th h (m+1)=true:=cD F;have K:th (l+1) (m+1)=true:=cD aa;have b5:gr 1 1=true:=rfl;simp only[kU,pv,mZ,jy,A,e,b1,J,Ou,Nat.div_one,u,y,b2,b3,K,b5,OF,Ew]
def aD1{d:R}:oM X d=O d:=rfl
def apc:Tryz.prog.underlying 3=O (.int .i64):=aH
def ajN:Tryz.prog.underlying 299=O (.int .u64):=aH
theorem cv1(h:n<=100000):sH af 3 299 (O (aW n))=O (aU n):=by simp only[sH,apc,ajN];grind[H5,aar]
def cv2(h:n<=100000):sH af 299 3 (O (aU n))=O (aW n):=by simp only[sH,apc,ajN];rw[FH xT];rfl
theorem ltZ:cY af .lss t (aW n) (ao 0)=O (.bool W):=by grind[Uu,aik,auL]
theorem aG2(g:Good H){x:au}{n:R}(h:n<=100000)(hx:jX H.ah.get 1 1 x [ao (-1)]):∃r,fp af ng (bZ ng) 171 [x,aW n] H r/\r.1=.slice H.ae 0 n X/\HEq (alloc H (oQ n n) V 1) r.2:=by
 obtain⟨_,v1,rfl⟩:=aAW (ng:=ng) (H:=H) h;have v1:=nW vZ v1;refine lp Tryz.func171 Q ?_;show bB af ng (bZ ng) 48 _ _ _ _;have a0:ai (eH [x,aW n] 0 .nil) 0=x:=rfl;have a1:ai (eH [x,aW n] 0 .nil) 1=aW n:=rfl;have an:dh af 50 x=O (aW 1):=hx.dh pv;have aq:sH af 3 299 (O (aW 1))=O (aU 1):=cv1 (n:=1) aa;refine aB (aS (H':=H) (λ _=>agl) sp ?_);intro T1 _ k1;obtain⟨y,b1⟩:=jA k1 a0 a1;refine aB (aB (iK (H':=H) (λ T=>ai T 10=.bool W) ?_ ?_))
 ·(repeat ((first|apply fC (cf rfl)|apply jF rfl rfl rfl);simp+decide only[AB,b1,ltZ];rfl))
  exact fX (by simp+decide only[AB];grind[aik,auL])
 intro T2 am k2;obtain⟨y,b1⟩:=jA k2 y b1;refine eX (by rw[fQ,am]) (λ h=>bk) (λ _=>fZ ?_);refine aB (aS (H':=H) (λ T=>ai T 5=aU 0/\ai T 6=aU n) (zA y @b1 an aq (cv1 h) @aGG v1) ?_)
 rintro T3 ⟨t5,J⟩ k3
 have y:=aL k3 y;refine aB (aB (iK (H':=H) (λ T=>ai T 26=.bool W) ?_ ?_))
 ·(iterate 3 (apply fC (cf Q);simp+decide only[AB,t5];rfl))
  (iterate 2 (apply amo (b:=W) (want:=W) (j:=2) (d:=23) Q Q Q Q (by simp+decide only[AB,t5]);simp+decide only[AB,J];rfl))
  (apply fC (cf Q);simp+decide only[AB,t5,J];rfl)
  exact fX (by simp+decide only[AB];grind[aik])
 intro T4 al k4;obtain⟨y,J⟩:=jA k4 y J;refine eX (by rw[fQ,al]) (λ h=>bk) (λ _=>fZ ?_);refine aB (aS (H':=alloc H (oQ n 0) V 1) (λ T=>ai T 7=.slice H.ae 0 n X) (jG J (cv2 h) (aGZ h)) ?_);intro T5 S k5;have y:=aL k5 y;have u:=hx.keep (iv g (oQ n 0) V 1)
 obtain⟨k,N,D,ag,ap,ar⟩:∃(k:R) (N:aj),wR af (alloc H (oQ n 0) V 1) [50,50] [.slice H.ae 0 n X,x]=O (aW k,N)/\HEq (alloc H (oQ n k) V 1) N/\(0<k\/n=0)/\k<=n:=by
  by_cases h0:n=0
  .subst h0;have hc:=u.cells;refine⟨0,_,aIf u.lenOf ?_,ahL _,.inr Q,aZ _⟩;obtain⟨_,⟨h1,_⟩|⟨v,off,lim,r,rfl,hr,hl,_⟩⟩:=u;.cases h1
   grind[th,hP,er,aQ]
  obtain⟨N,hw,M⟩:=ajf (H:=H) (cells:=oQ n 0) (new:=[ao (-1)]) (off:=0) (sz:=1) (ex:=V) (ahL _) (by grind[LA]) Q;have hp:eV (oQ n 0) 0 [ao (-1)]=oQ n 1:=aox (n:=n) (k:=0) (c:=1) aa;rw[hp]at M;refine⟨1,N,ahi u.lenOf ?_ u.cells aw hw,M,.inl aa,aa⟩;grind[min2,hP]
 refine aB (aS (H':=N) (λ T=>ai T 8=aW k) (xK y S @ah3 @alG D) ?_);intro T6 t8 k6;have S:=aL k6 S;refine aB (gR (pq (λ mm T K=>∃i:R,mm+i=n/\HEq (alloc H (oQ n i) V 1) K/\(0<i\/n=0)/\ai T 7=.slice H.ae 0 n X/\ai T 8=aW i) ?_ (n-k) _ _ ⟨k,aa,ag,ap,S,t8⟩));clear S t8 t5 J y k1 k2 k3 k4 k5 k6 ag
 rintro mm T K ⟨i,hi,M,av,F,u8⟩
 refine aB (aB (aS (H':=K) (λ T=>ai T 37=.bool (decide (gu i<gu n))) (jG F u8 @aCs) ?_));intro T7 ak k7;obtain⟨F,u8⟩:=jA k7 F u8;refine eX (by rw[fQ,ak]) (λ Z=>fZ ?_) (λ ab=>mY ?_)
 .have Z:i<n:=bP;have A:K.ah.get H.ae=O ⟨oQ n i,H.ae,0,V,W,1⟩:=by rw[M.ah];exact(mK H (oQ n i) V 1).row
  have s1:=aoH (lo:=O (aW i)) (hi:=X) (l:=i) (h:=n) A (LA aa) aa Q Q aa (aZ _) Z;have s2:=aoH (lo:=X) (hi:=O (aW i)) (l:=0) (h:=i) A (LA aa) aa Q Q aa aa aa;rw[Ou]at s2;obtain⟨c,hc⟩:∃c,min2 i (n-i)=c:=⟨_,Q⟩;have ax:c<=i/\c<=n-i/\0<c:=by grind[min2,th,iT,Nat.lt_of_not_le,hP]
  have Y:er K.ah.get 1 c (.slice H.ae 0 i X)=O (ef c (ao (-1))):=by grind[th,hP,oQ,LA,er,aQ,aJR]
  obtain⟨K2,hw,ad⟩:=ajf (off:=i) (new:=ef c (ao (-1))) M (by grind[LA,abP]) (iw.2 λ a ha=>by rw[UR ha];rfl);rw[aox aa]at ad;have D:=ahi (v:=H.ae) (off:=i) (n:=n-i) (lim:=X) (s:=.slice H.ae 0 i X) (ns:=i) Q hc Y (by intro e;have:=fP List.length e;simp at this;omega) hw;have ac:∀{t:bj},cY af .add t (aW i) (aW c)=O (aW (i+c)):=by intro t;exact Ir (P:=af) (t:=t) (a:=gu i) (b:=gu c) (by unfold sP;constructor<;>simp<;>omega)
  refine gR (Rb (H':=K2) (λ T=>ai T 8=aW (i+c)) Q ?_ ?_)
  ·(repeat ((first|apply fC (cf rfl)|apply jF rfl rfl rfl);simp+decide only[AB,F,u8,s1,s2,ah3,alG,D,ac];rfl))
   exact fX gW
  intro T8 t8 k8;refine⟨mm-c,aa,i+c,aa,ad,aa,aL k8 F,t8⟩
 have ab:i=n:=CL;subst ab;show bB af ng (bZ ng) 48 _ _ _ _;refine aB (aS (H':=K) (λ T=>ai T 4=.slice H.ae 0 i X) F ?_)
 rintro T9 t4 _
 refine iZ ⟨aw,[.slice H.ae 0 i X],?_,Q,M⟩;show eG af _ _ [.tmp 4]=_;simp only[eG,t4]
def aid(h:n<=100000)(J:cH G (eJ []) H)(M:bu ρ0 G.I [.sl [[eI (-1)]] X,eI (n:U)] xs):
 ∃H' cells,bZ ng 171 xs H=O (.slice H.ae 0 (ef n [eI (-1)]).length X,H')/\HEq (alloc H cells V 1) H'/\dq G.I (ef n [eI (-1)]).flatten cells:=by
 obtain⟨x,S,rfl,h1,h2⟩:=bJ.1 M;obtain⟨y,P,rfl,u,N⟩:=bJ.1 h2;simp only[bu]at N;subst N;have h1:RP G.I (.sl [[eI (-1)]] X) x:=by simpa only[aJ]using h1
 have h1:RP G.I (aO [-1]) x:=h1;have u:y=ao (n:U):=by simp only[aJ]at u;exact u.1
 subst u;obtain⟨⟨v,K⟩,F,D,A⟩:=aG2 (ng:=ng) J.gd h (RJ J.gI h1);simp only at D A;subst D;refine⟨K,_,by rw[mw];exact nW Q F,A,?_⟩;clear F A M h2 u;unfold oQ;rw[UE,List.replicate_zero,ou];clear h;induction n with
 |zero=>simp[dq]
 |succ n Y=>
  rw[OI,OI,auA];exact fL.2 ⟨_,_,Q,by simp[RP,jP],Y⟩
end
section
variable{args:be}{v:ak}
variable{ng:R}{I:Im}{H K:aj}{G:Gh}{gl:bH}
def Fa{a b:aK}(h:(a.map λ n=>[eI n])=b.map λ n=>[eI n]):a=b:=by
 induction a generalizing b with
 |nil=>cases b with
  |nil=>rfl
  |cons y b=>cases h
 |cons x a u=>cases b with
  |nil=>cases h
  |cons y b=>
   simp only[nA,UQ]at h;obtain⟨h1,h2⟩:=h;have:x=y:=by injection h1.1 with h;injection h
   rw[this,u h2]
inductive pw:FuncId->B ak->ak->Prop
 |clone {es:aP} {z:B U} (e:es=z.map λ n=>[eI n]) (h:z.length<=1000):pw 144 [.sl es none] (.sl es (some 1))
 |acr {es:aP} (h:es.length<=1000) (hs:∀e∈es,e.length=1):pw 226 [.sl es none] (.sl es (some 1))
 |Ts {es:aP} (h:es.length<=1000) (hs:∀e∈es,e.length=3):pw 258 [.sl es none] (.sl es (some 3))
 |MM {es:aP} {z:B U} (e:es=z.map λ n=>[eI n]) (h:z.length<=1000):pw 251 [.sl es none] (eI ((Lib.compact (qp z)).length:U))
 |TR {es:aP} {z:B U} (e:es=z.map λ n=>[eI n]) (h:z.length<=1000):pw 338 [.sl es none] (eB (IY z))
 |line {tn te:aP} {a:R} (ht:Ak tn) (ha:a<tn.length):pw 256 [.agg [.sl tn none,.sl te none],eI (a:U)] (aO (mC tn (a+1) a).reverse)
 |attrs {tn te:aP} {a:R} (ht:sO tn) (ha:a<tn.length) (hb:a<=990):pw 88 [.agg [.sl tn none,.sl te none],eI (a:U)] (.sl (dP tn (a+1) a) (some 4))
 |concat {a b:aP} (ha:a.length<=1000) (hb:b.length<=1000) (ca:∀e∈a,zW e) (cb:∀e∈b,zW e):pw 149 [.sl [[.sl a none],[.sl b none]] none] (.sl (a++b) none)
 |QR {es es':aP} {m:R} (e:es=(bI m).map λ n=>[eI n]) (e':es'=(bI m).map λ n=>[eI n]) (hm:m<=8):pw 155 [.sl es none,.sl es' none] (.bp [.sl es none,.sl es' none])
 |solve {a b c d e f g:aP}:pw 340 [.agg [.sl a none,.sl b none,.sl [] none,eI 0,.sl [] none],.agg [.sl c none,.sl d none,.sl e none],.agg [.sl f none,.sl g none]] (.bp [.sl [] none,eI 0])
 |given {es:aP} {z:B U} {i:R} {x:U} (e:es=z.map λ n=>[eI n]) (h:z[i]? =some x):pw 346 [.sl es none,eI (i:U)] (eI x)
 |jS {n:R} (h:n<=100000):pw 171 [.sl [[eI (-1)]] none,eI (n:U)] (.sl (List.replicate n [eI (-1)]) (some 1))
def Mf{a b:R}(h:(eI (a:U))=eI (b:U)):a=b:=by injection h with h;injection h with _ h;exact Int.ofNat.inj h
def pw.Km{f:ck}{a:be}{w:ak}(h1:pw f a v)(h2:pw f a w):v=w:=by
 cases h1 with
 |clone e h=>cases h2 with
  |clone=>rfl
 |acr=>cases h2 with
  |acr=>rfl
 |Ts=>cases h2 with
  |Ts=>rfl
 |MM e h=>cases h2 with
  |MM u A=>rw[e]at u;rw[Fa u]
 |TR e h=>cases h2 with
  |TR u A=>rw[e]at u;rw[Fa u]
 |line K N=>
  rename_i tn J a;generalize e:eI (a:U)=x at h2;cases h2 with
  |line D F=>rw[Mf e]
 |attrs K N P=>
  rename_i tn J a;generalize e:eI (a:U)=x at h2;cases h2 with
  |attrs D F M=>rw[Mf e]
 |concat=>cases h2 with
  |concat=>rfl
 |QR=>cases h2 with
  |QR=>rfl
 |solve=>cases h2 with
  |solve=>rfl
 |given e h=>
  rename_i es z i x;generalize e1:eI (i:U)=y at h2;cases h2 with
  |given u A=>
   rw[e]at u;obtain rfl:=Fa u;rw[<-Mf e1,h]at A;cases A;rfl
 |jS h=>
  rename_i n;generalize e:eI (n:U)=x at h2;cases h2 with
  |jS A=>rw[Mf e]
open Classical in
noncomputable def pI:fi:=λ f args=>if h:∃v,pw f args v then O (Classical.choose h)else X
def aeT{f:ck}(h:pI f args=O v):pw f args v:=by
 unfold pI at h;split at h;.rename_i u;cases h;exact Et u
 cases h
def EI{f:ck}(h:pw f args v):pI f args=O v:=by have u:∃v,pw f args v:=⟨v,h⟩;unfold pI;rw[OG u,(Et u).Km h]
def agj{I:Im}{x:ak}:∀{n:R} {cs:aF},dq I (ef n [x]).flatten cs->cx I 1 (ef n [x]) cs
 |0,cs,h=>by rw[xp.1 h];simp[cx]
 |n+1,cs,h=>by rw[OI,auA]at h;simp only[AX,mG,dq]at h;obtain⟨c,cs,rfl,h1,h2⟩:=h;rw[OI];simp only[cx];exact⟨Q,⟨c,[],aw,h1,Q⟩,agj (by simpa using h2)⟩
def aCO(h:n<=100000)(y:cH G (eJ []) H)(M:bu ρ0 G.I [.sl [[eI (-1)]] X,eI (n:U)] xs):iV 0 G [] H (bZ ng 171 xs H) (.sl (ef n [eI (-1)]) (O 1)) [] false:=by
 obtain⟨H',cells,h1,h2,K⟩:=aid (ng:=ng) h y M;rw[h1];have fa:=iv y.gd cells V 1;have J:=jb y.gd cells V 1;have D:Fr X H H':=⟨λ u r e k=>by rw[h2.ah];exact fa.row u r e k,λ f m e k=>by rw[h2.aV];exact fa.aV f m e k,by rw[h2.ae];exact fa.ae⟩;have A:Good H':=⟨λ u r k=>by rw[h2.ah]at k;rw[h2.ae];exact J.wf u r k,λ f mem u r a b c=>by rw[h2.aV]at a;rw[h2.ah]at c;exact J.aI f mem u r a b c,λ f mem a=>by rw[h2.aV]at a;rw[h2.ae];exact J.mem f mem a⟩;have F:cells.length=(ef n [eI (-1)]).length*1:=by have:=wm K;simp at this;simp[this]
 refine alO y A D (qY _ _ _ _ _ h1) (aZ _) (by rw[h2.ah];exact(mK H cells V 1).row) (by rw[h2.aV];exact Tr.tA _ _ _) F cB ?_;exact Ap (RQ y) _ _ _ (agj K)
def aqe:cY af .eql 50 .aq .aq=O (.bool V)/\cY af .eql 50 .eY .aq=O (.bool W)/\(∀v off n lim,cY af .eql 50 (.slice v off n lim) .aq=O (.bool W)):=akO
def ar7(g:Good H){z:aK}{x:U}(h:z[i]? =O x)(F:jX H.ah.get 1 z.length s (ints z)):∃r,fp af ng (bZ ng) 346 [s,ao (i:U)] H r/\r=(ao x,H):=by
 have Z:i<z.length:=(pC.1 h).1;obtain⟨y,o,K,_,J⟩:=F.index Z pv mZ Q;have D:∀k,iL af 50 s (.int k (i:U))=O (.ptr y o):=K;have ld:=vA (J 0 (ao x) cB (by rw[OF,sK];simp[ints,h]));rw[sK]at ld
 obtain⟨v,off,lim,rfl⟩:∃v off lim,s=.slice v off z.length lim:=by
  obtain⟨_,⟨h0,_⟩|⟨v,off,lim,r,rfl,_⟩⟩:=F;.omega
  exact⟨v,off,lim,Q⟩
 have Y:=aqe.2.2 v off z.length lim;refine lp Tryz.func346 Q ?_;show bB af ng (bZ ng) 11 _ _ _ _;generalize u:([au.slice v off z.length lim,ao (i:U)]:aF)=args;have a0:ai (eH args 0 .nil) 0=.slice v off z.length lim:=by rw[<-u];rfl
 have a1:ai (eH args 0 .nil) 1=ao (i:U):=by rw[<-u];rfl
 refine aB (aS (H':=H) (λ _=>agl) sp ?_);intro T1 _ S;obtain⟨A,b1⟩:=jA S a0 a1;refine aB (aB (aS (H':=H) (λ T=>ai T 6=.bool W) (iy A Y) ?_));intro T2 M P;obtain⟨A,b1⟩:=jA P A b1;refine eX (by rw[fQ,M]) (λ h=>bk) (λ _=>fZ ?_);refine aB (aS (H':=H) (λ T=>ai T 4=ao x) (nP A @b1 D ld) ?_);intro T3 N _;refine iZ ⟨aw,[ao x],?_,Q⟩;show eG af _ _ [.tmp 4]=_;simp only[eG,N]
def aCF(u:cH G (eJ []) H){z:aK}{x:U}(h:z[i]? =O x)(K:bu ρ0 G.I [aO z,eI (i:U)] xs):iV 0 G [] H (bZ ng 346 xs H) (eI x) [] false:=by
 obtain⟨a,F,rfl,h1,h2⟩:=bJ.1 K;obtain⟨b,D,rfl,y,A⟩:=bJ.1 h2;simp only[bu]at A;subst A;have h1:RP G.I (aO z) a:=by simpa only[aJ]using h1
 have y:b=ao (i:U):=by simp only[aJ]at y;exact y.1
 subst y;obtain⟨_,J,rfl⟩:=ar7 (ng:=ng) u.gd h (RJ u.gI h1);rw[nW Q J];refine yX u u.gd (Fr.refl _ _) (iU.refl _) (by simp[aJ,jP]) λ j es sz c e e2=>?_
 match j with
 |0=>cases e
 |j+1=>cases e
def aej(Y:∀G:Gh,mJ ng gl G):Sk ng gl bset pI (bZ ng):=by
 refine⟨λ f args v D h P A G H xs u M y=>?_,λ f args S v D h A G H xs u M y=>ala h u y,Zm,λ f args v N h P A=>?_⟩
 .replace h:=aeT h
  clear D P A;cases h with
  |clone e h=>subst e;exact Ft (arM (ng:=ng) 0 u h y)
  |acr h A=>exact Ft (awt (ng:=ng) 0 u h A y)
  |Ts h A=>exact Ft (aBN (ng:=ng) 0 u h A y)
  |MM e h=>subst e;exact Ft (aIn (ng:=ng) 0 u h y)
  |TR e h=>subst e;exact aGb u h y
  |line K F=>exact Ft (aAj (ng:=ng) 0 u K F y)
  |attrs K F D=>exact Ft (aHH (ng:=ng) 995 u M K F aa aa y)
  |concat F D ca cb=>exact Ft (aHL (ng:=ng) 0 u F D ca cb y)
  |QR e Z hm=>subst e;subst Z;exact awg u hm y
  |solve=>exact as4 u y
  |given e h=>subst e;exact aCF u h y
  |jS h=>exact aCO h u y
 have N:f=171:=cI N;subst N
 replace h:=aeT h
 generalize J:(171:R)=f at h;cases h with
 |jS h=>exact⟨_,Q,λ G H xs u M y=>aid h u y⟩
 |_=>cases J
def Vd:pJ ng js (VW js pI) (bZ ng):=YX (λ _ _ _ _ u h=>hL u h) (aej λ _=>uT)
end
section
variable{gl:bH}{base:fi}
def ajX{tn:aP}{f:R}{a:U}(h:a<0):dP tn f a=[]:=by
 cases f;.rfl
 rename_i f;unfold dP;rw[aY h]
theorem ayh{tn:aP}(u:sO tn):∀{f g:R} {a:U},a<tn.length->a<f->a<g->dP tn f a=dP tn g a:=by
 intro f g a h1 h2 y;rcases Nat.le_total f g with h|h
 .exact(O9 u h2 h h1).symm
 exact O9 u y h h1
end
section
variable{ng:R}{aae:bg}
end
section
variable{s:Sh α}
def aaa:∀{a b:be} {x y:aF},dq I a x->dq I b y->dq I (a++b) (x++y)
 |[],b,x,y,h,k=>(xp.1 h)▸k
 |v::a,b,x,y,h,k=>by obtain⟨c,cs,rfl,h1,h2⟩:=h;exact⟨c,cs++y,Q,h1,aaa h2 k⟩
def vD{α:Type}(s:Sh α)(c:α->be):Prop:=(∀a,(c a).length=s.sz)/\∀(g:fE) (S:vH) (I:Im) (a:α) (cs:aF),(∀u r,g u=O r->¬S r.aI->I u=O r)->s.rel g S a cs->dq I (c a) cs
def OW:vD yS λ t=>[.sc (.str t)]:=⟨λ _=>rfl,λ g S I a cs _ h=>by subst h;simp[dq,RP,jP]⟩
def zl:vD wq λ n=>[eI n]:=⟨λ _=>rfl,λ g S I a cs _ h=>by subst h;simp[dq,RP,jP]⟩
def aAE:vD agY λ b=>[eB b]:=⟨λ _=>rfl,λ g S I a cs _ h=>by subst h;simp[dq,RP,jP]⟩
def wA{β:Type}{t:Sh β}{c:α->be}{d:β->be}(h:vD s c)(k:vD t d):vD (vE s t) λ x=>c x.1++d x.2:=⟨λ a=>by rw[kQ,h.1,k.1];rfl,λ g S I a cs u ⟨A,y,e,h1,h2⟩=>e▸aaa (h.2 g S I _ _ u h1) (k.2 g S I _ _ u h2)⟩
theorem RZ{c:α->be}(h:vD s c)(D:∀u r,g u=O r->¬S r.aI->I u=O r):∀{l:B α} {ds:aF},ds.length=l.length*s.sz->(∀i a,l[i]? =O a->s.rel g S a (iF ds s.sz i))->cx I s.sz (l.map c) ds
 |[],ds,y,_=>by simp at y;rw[y];simp[cx]
 |a::l,ds,y,A=>by have h0:=A 0 a Q;rw[(show iF ds _ 0=ds.take s.sz by grind[iF])]at h0;refine⟨h.1 a,h.2 g S I _ _ D h0,RZ h D (by grind[ang]) λ i b F=>?_⟩;have:=A (i+1) b F;grind[iF,acs]
theorem Uy{c:α->be}(h:vD s c)(y:∀u r,g u=O r->¬S r.aI->I u=O r){v:au}(A:(m9 s).rel g S l [v]):RP I (.sl (l.map c) X) v:=by
 obtain⟨F,ds,⟨⟩,⟨h1,h2⟩,D⟩:=A;rw[RP,br];rcases h2 with⟨h2⟩|⟨x,off,r,rfl,e2,e3,e6,e4,e5⟩
 .grind
 exact .inr ⟨x,off,X,r,s.sz,Q,y _ _ e2 e3,.inr ⟨Q,e6⟩,e4,e5▸RZ h y h1 D⟩
def Sl{c:α->be}(h:vD s c):vD (m9 s) λ l=>[.sl (l.map c) X]:=⟨λ _=>rfl,λ g S I a cs A y=>by obtain⟨v,ds,rfl,u⟩:=y;exact⟨v,[],Q,Uy h A ⟨v,ds,Q,u⟩,Q⟩⟩
def wC(a:wh):be:=[.sc (.str a.1),eI a.2.1,eI a.2.2.1,.sl (a.2.2.2.map λ t=>[.sc (.str t)]) X]
def zt(x:zu):be:=[.sc (.str x.1),eI x.2.1,eB x.2.2.1,.sl (x.2.2.2.map wC) X]
def LX(e:I9):be:=[.sc (.str e.1),eI e.2.1,eI e.2.2.1,eI e.2.2.2.1,eI e.2.2.2.2.1,eI e.2.2.2.2.2.1,eI e.2.2.2.2.2.2]
def aiZ:vD wG wC:=wA OW (wA zl (wA zl (Sl OW)))
def aw9:vD Gr zt:=wA OW (wA zl (wA aAE (Sl aiZ)))
def aHl:vD KU LX:=wA OW (wA zl (wA zl (wA zl (wA zl (wA zl zl)))))
theorem YZ:∀{es:aP} {cs:aF} {i:R} {e:be},cx I sz es cs->es[i]? =O e->e.length=sz/\dq I e (iF cs sz i)
 |[],cs,i,e,_,h=>by simp at h
 |d::es,cs,0,e,h,u=>by rw[cx]at h;grind[iF]
 |d::es,cs,i+1,e,h,u=>by obtain⟨y⟩:=YZ h.2.2 u;grind[iF,acs]
theorem aoF{x:ak}(hx:RP I x b)(D:k<sz):∀{es:aP} {cs:aF} {i:R} {e:be},cx I sz es cs->cs.length=es.length*sz->es[i]? =O e->cx I sz (es.set i (e.set k x)) (cs.set (i*sz+k) b)
 |[],cs,i,e,_,_,h=>by simp at h
 |d::es,cs,0,e,h,A,u=>by
  simp only[cx]at h;simp at u;subst u;refine⟨by rw[zB];exact h.1,?_,?_⟩
  .rw[adS,Ew,UP]
   have y:∀(d:be) (c:aF) (k:R),dq I d c->dq I (d.set k x) (c.set k b):=by
    intro d;induction d with
    |nil=>grind[xp]
    |cons v d J=>
     intro c k h;simp only[dq]at h;cases k;.simp only[List.set_cons_zero,dq];grind
     rename_i k;simp only[List.set_cons_succ,dq];grind
   exact y _ _ _ h.2.1
  grind[List.drop_set_of_lt]
 |d::es,cs,i+1,e,h,A,u=>by
  simp only[cx]at h;have F:(i+1)*sz+k=sz+(i*sz+k):=by rw[qO];omega
  refine⟨h.1,?_,?_⟩;.grind[List.take_set_of_le]
  rw[F,List.drop_set,aR aa,(aa:sz+(i*sz+k)-sz=i*sz+k)];exact aoF hx D h.2.2 (by grind[List.length_drop,List.length_cons,ang]) u
end
section
variable{P:aA}{ng n D:R}{gl:bH}
def aEZ{S:eE}{F:bg}(N:pJ ng gl S F){pf:mh}{c:Code}{Y:CC}(hm:qu P pf c=O Y){G:Gh}{T:VT}{T':aM}{st:aG}{H:aj}(K:Ok ng gl D G T T' st H){e:oP}{Z:VT}{dp:aG}(A:cO P gl S n Y T st=O (e,Z,dp)){Qqq:nv}
 (hQ:∀u y J,Ok ng gl D J Z u dp y->wN D G st H J dp y (TW D dp.w)->Qqq e u y):bB P ng F n c T' H Qqq:=by
 rw[<-PE hm]at A;obtain⟨m,M⟩:=Ll.1 A;obtain⟨_,u,y,J,h1,h2,h3⟩:=WI N m c K M;exact⟨m,e,u,y,h1,hQ u y J h2 h3⟩
theorem cm.amW{H:aj}(g:Good H){n:R}(h:cm H sz n s cs fm)(M:i<n)(hk:k<sz){c:au}(S:c.dm=V){j:TypeInfo}(F:P.underlying t=O (.slice e))(K:P.info? e=O j)(u:j.size=sz):
 ∃v off H',(∀kd,iL P t s (.int kd (.ofNat i))=O (.ptr v off))/\write H v (off+k) [c]=O H'/\cm H' sz n s (cs.set (i*sz+k) c) fm/\Fr fm H H'/\Good H':=by
 obtain⟨h1,⟨rfl,rfl,_⟩|⟨v,r,rfl,o,y,hl,D,rfl⟩⟩:=h;.omega
 .have J:i*sz+sz<=n*sz:=by have:=uI sz (aa:i+1<=n);grind[ang]
  obtain⟨H',Z,A,N,hn,Y⟩:=nK g o (off:=i*sz+k) (new:=[c]) gD (by simp[S]);refine⟨v,0+i*sz,H',λ kd=>?_,?_,⟨by simpa using h1,.inr ⟨v,_,Q,A,y,?_,?_,Q⟩⟩,N,Y⟩;.simp only[iL,F,K,cD M,u]
  .grind
  .grind[RI]
  grind[RI,List.take_set]
end
section
variable{ats:B wh}
variable{ng:R}{I:Im}{H K:aj}{G:Gh}
def aGl{u:bg}{l:aF}{H:aj}:eL af u 226 l H=u 226 l H:=rfl
def aJx{u:bg}{l:aF}{H:aj}:eL af u 196 l H=u 196 l H:=rfl
def agI{u:bg}{l:aF}{H:aj}:eL af u 121 l H=u 121 l H:=rfl
def Wx:Tryz.prog.info? 85=O Tryz.t85:=aH
def asW:Tryz.prog.info? 55=O Tryz.t55:=aH
def aEz{v o:R}:fO af 85 (.ptr v o) 3=O (.ptr v (o+3)):=rfl
def ayn{c:au}(h:aQ g v off 1=O [c]):cr af g 55 (.ptr v off)=O c:=by rw[cr,h];rfl
def aw5{H:aj}(h:a.dm=true):dD af H 55 (.ptr v off) a=write H v off [a]:=by have h2:gr [a].length Tryz.t55.size=true:=rfl;simp only[dD,asW,zG h,h2]
theorem akk(g:Good H)(fr:Fr X H K)(D:iU H K):∀u r,K.ah.get u=O r->¬(r.aI<H.ae)->eh I H K u=O r:=λ u r e h=>by
 have hu:H.ae<=u:=by
  refine Nat.le_of_not_lt λ y=>h ?_
  cases A:H.ah.get u;.rw[D.2.1 u y A]at e;cases e
  rename_i r0;rw[fr.row u r0 A aw]at e;cases e;exact(g.wf u _ A).2
 grind[eh]
def aGm{I:Im}(h:cx I 4 (ats.map wC) cs){a:wh}(u:ats[i]? =O a):∃c,iF cs 4 i=[.str a.1,ao a.2.1,ao a.2.2.1,c]/\RP I (.sl (a.2.2.2.map λ t=>[.sc (.str t)]) X) c:=by obtain⟨K,_,A,⟨rfl⟩,J,_,rfl,⟨rfl⟩,F,_,rfl,⟨rfl⟩,D,_,rfl,y,rfl⟩:=(YZ h (by rw[mu,u];rfl)).2;exact⟨D,A,y⟩
theorem aDz(g:Good H)(P:bO I H.ah.get){l:qF}(J:RP I (.sl (l.map λ t=>[.sc (.str t)]) X) a)(hl:l.length<=1000):
 ∃c K,bZ ng 226 [a] H=O (c,K)/\Fr X H K/\Good K/\c.dm=V/\(m9 yS).rel K.ah.get (λ f=>f<H.ae) l [c]:=by
 obtain⟨⟨c,K⟩,h1,h2,S,y⟩:=akm g P J (λ e he=>by grind) FZ
 refine⟨c,K,nW Q h1,h2,S,by rcases y with⟨_,y,_⟩|⟨u,cells,ex,_,y,_⟩<;>subst y<;>rfl,?_⟩
 .rcases y with⟨y,rfl,_⟩|⟨u,cells,ex,k1,rfl,F,Z,A,D⟩
  .have:=by simpa using y
   subst this;exact⟨_,[],Q,⟨Q,.inl ⟨Q,.inl Q⟩⟩,λ i a N=>by simp at N⟩
  rw[br]at A;refine⟨_,cells,Q,⟨A,.inr ⟨u,0,_,F1,F,?_,Q,by show 0+l.length*1<=cells.length;omega,by show(cells.drop 0).take (l.length*1)=cells;grind⟩⟩,λ i t M=>?_⟩;.show¬u<H.ae;omega
  obtain⟨c0,_,Y,⟨rfl⟩,rfl⟩:=(YZ D (by rw[mu,M];rfl)).2;exact Y
def ahl{c:au}(h:aQ g v off 1=O [c]):cr af g 47 (.ptr v off)=O c:=by rw[cr,h];rfl
def aFL{H:aj}{x:au}{new:aF}(A:lenOf x=O n)(D:er H.ah.get 4 n x=O new):iC af H [47,47] [s,x]=gM H 4 Tryz.t85.bytes s n new:=by obtain⟨z,y,u⟩:∃z,fW _ 85=O z/\z.cells.length=4:=⟨_,aGV,Q⟩;have h1:Tryz.t85.size=4:=rfl;simp+decide [iC,Wx,y,u,h1,A,D]
theorem ayL{tn:aP}(ht:sO tn)(ac:∀i,i<tn.length->(dP tn (i+1) i).length<=1000)(hN:RP I (.sl tn X) sN):
 ∀(i:R),i<tn.length->∀(H:aj),Good H->bO I H.ah.get->∃s K fm cs,bZ ng 121 [.agg [sN,sE],ao (i:U)] H=O (s,K)/\Fr X H K/\Good K/\cm K 4 (dP tn (i+1) i).length s cs fm/\lq H fm/\cx I 4 (dP tn (i+1) i) cs:=by
 intro i;induction i using Nat.strongRecOn with
 |ind i ih=>
  intro hi H g hI;obtain⟨c0,p,c2,l,e,p1,p2,l1,l2⟩:=ht.2 _ hi;have hv:dP tn (i+1) (i:U)=dP tn i p++l:=by grind[dP,mR,zS,Int.toNat_natCast]
  have hs:=ac i hi;rw[hv]at hs;rw[kQ]at hs;obtain⟨H1,aH,g1,f1,o1,_⟩:=mg g [sN,sE] V 1;have Z:bO I H1.ah.get:=λ u r e=>f1.row u r (hI u r e) aw
  have D:∀{K:aj},Fr X H1 K->aQ K.ah.get H.ae (0+0) 1=O [sN]:=λ {K} fr=>by have:=fr.row _ _ o1.row aw;simp+decide only[aQ,this];rfl
  have am:∀{K:aj},Fr X H1 K->cr af K.ah.get 34 (.ptr H.ae 0)=O (.agg [sN,sE]):=λ {K} fr=>Ii (by have:=fr.row _ _ o1.row aw;simp only[aQ,this];rfl)
  obtain⟨Y,K1,N,J,hK,A,aD,ax,P,ad,al⟩:∃Y K1 N J,(p>=0->bZ ng 121 [.agg [sN,sE],ao p] H1=O (Y,K1))/\Fr X H1 K1/\Good K1/\cm K1 4 (dP tn i p).length Y J N/\lq H1 N/\cx I 4 (dP tn i p) J/\(¬p>=0->Y=.aq/\K1=H1):=by
   by_cases h0:p>=0;.obtain⟨j,rfl⟩:∃j:R,p=j:=⟨p.toNat,aa⟩;obtain⟨Y,K1,N,J,q1,q2,q3,q4,q5,q6⟩:=ih j aa aa H1 g1 Z;grind[dP,ayh,absurd]
   refine⟨.aq,H1,X,[],λ h=>absurd h h0,Fr.refl _ _,g1,?_,λ f e=>bk,?_,λ _=>⟨Q,Q⟩⟩;.rw[ajX aa];exact⟨Q,.inl ⟨Q,Q,Q⟩⟩
   rw[ajX aa];simp[cx]
  have ap:bO I K1.ah.get:=λ u r e=>A.row u r (Z u r e) aw
  obtain⟨y,o,x1,x2⟩:=Hy Z hN e adp Ko Q;obtain⟨b,hb,ak⟩:=x2 1 (.sc (ao p)) Q;simp only[RP]at ak;obtain⟨rfl,_⟩:=ak;have ar:∀k,iL af 31 sN (.int k (i:U))=O (.ptr y o):=x1;obtain⟨y2,o2,z1,z2⟩:=Hy ap hN e adp Ko Q;obtain⟨b2,an,ag⟩:=z2 3 (.sl l X) Q;have ab:∀k,iL af 31 sN (.int k (i:U))=O (.ptr y2 o2):=z1;have az:∀e∈l,e.length=4:=λ e he=>by have:=iw.1 l2 e he;simpa using this
  obtain⟨w1,ds,w2,w3,w4,_⟩:=Bi ag az ap;obtain⟨s2,K2,aI,v1,v2,v3,v4,v5⟩:=yp (k:=l.length) (bytes:=Tryz.t85.bytes) (new:=ds) aD cB ax w3 (MW w4) (by show _*56<=1099511627776;omega) mE;have F:=aFL (s:=Y) w1 w2;rw[v1]at F;have aE:Fr X H1 K2:=A.jv g1 v3 P
  have hW:∃r,fp af ng (bZ ng) 121 [.agg [sN,sE],ao (i:U)] H r/\r=(s2,K2):=by
   refine lp Tryz.func121 Q ?_;show bB af ng (bZ ng) 26 _ _ _ _;have a0:ai (eH [.agg [sN,sE],ao (i:U)] 0 .nil) 0=.agg [sN,sE]:=rfl;have a1:ai (eH [.agg [sN,sE],ao (i:U)] 0 .nil) 1=ao (i:U):=rfl;have hc:(au.agg [sN,sE]).cells=[sN,sE]:=rfl;refine aB (aS (H':=H1) (λ T=>ai T 2=.ptr H.ae 0) (jG a0 hc aH) ?_);intro T1 M k1;have b1:=aL k1 a1;refine aB (aS (H':=H1) (λ T=>ai T 5=.aq) sp ?_);intro T2 S k2;obtain⟨b1,M⟩:=jA k2 b1 M;refine aB (aB (aS (H':=H1) (λ T=>ai T 6=ao p) (zA @b1 M @HR (IT (D (Fr.refl _ _))) ar @apt (vA hb)) ?_));intro T3 t6 k3;obtain⟨b1,M,S⟩:=pB k3 b1 M S;refine aB (aS (H':=H1) (λ T=>ai T 14=.bool (decide (p>=0))) t6 ?_);intro T4 av k4;obtain⟨b1,M,S,t6⟩:=xu k4 b1 M S t6;refine eX (by rw[fQ,av]) (λ aC=>?_) (λ ay=>?_);.have hK:=hK (jL aC);refine aS (H':=K1) (λ T=>ai T 5=Y) (AQ @b1 M t6 (am (Fr.refl _ _)) @agI hK) ?_;intro T5 S k5;obtain⟨q1,q2⟩:=jA k5 b1 M;have q5:=S;show bB af ng (bZ ng) 26 _ _ _ _;refine aB (aS (H':=K2) (λ T=>ai T 4=s2) (mN q1 q2 q5 @HR (IT (D A)) ab @RT (iy (ahl an) F)) ?_);intro T9 t4 _;refine iZ ⟨aw,[s2],?_,Q⟩;show eG af _ _ [.tmp 4]=_;simp only[eG,t4]
   obtain⟨rfl,rfl⟩:=al (tM ay);have q1:=b1;have q2:=M;have q5:=S;refine fZ ?_;show bB af ng (bZ ng) 26 _ _ _ _;refine aB (aS (H':=K2) (λ T=>ai T 4=s2) (mN q1 q2 q5 @HR (IT (D A)) ab @RT (iy (ahl an) F)) ?_);intro T9 t4 _;refine iZ ⟨aw,[s2],?_,Q⟩;show eG af _ _ [.tmp 4]=_;simp only[eG,t4]
  obtain⟨_,hW,rfl⟩:=hW;refine⟨s2,K2,aI,J++ds,nW Q hW,f1.trans aE,v4,?_,?_,?_⟩;.grind[abY]
  .intro f e';rcases v5 with rfl|⟨f',aG,rfl⟩
   .exact fI f1.ae (P f e')
   cases e';exact fI (f1.trans A).ae aG
  rw[hv];exact M1 ad w4
theorem axm(g:Good H)(hI:bO I H.ah.get){sE:au}{tn te:aP}{i:R}(ht:sO tn)(am:∀i,i<tn.length->(dP tn (i+1) i).length<=1000)(hi:i<tn.length)(hN:RP I (.sl tn X) sN)(hE:RP I (.sl te X) sE)
 (aM:VW js pI 196 [.agg [.sl tn X,.sl te X],aO [(i:U)]] []=O (eI 0,[],W)) (av:dP tn (i+1) i=ats.map wC) (aH:∀x∈ats,x.2.2.2.length<=1000):
 ∃r,fp af ng (bZ ng) 168 [.agg [sN,sE],ao (i:U)] H r/\∃s,r.1=.tuple [s,ao 0]/\Fr X H r.2/\Good r.2/\(m9 wG).rel r.2.ah.get (λ f=>f<H.ae) ats [s]:=by
 have a3:ats.length<=1000:=aiP;obtain⟨Z,aY,g1,f1,o1,_⟩:=mg g [sN,sE] V 1;obtain⟨H2,aX,g2,f2,o2,_⟩:=mg g1 [ao (i:U)] V 1;have ay:=f1.trans f2;have n1:=f1.ae;have rT:∀{K:aj},aJ ρ0 (eh I H K) (.agg [.sl tn X,.sl te X]) (.agg [sN,sE]):=λ {K}=>by simp only[aJ];exact⟨Q,_,Q,bJ.2 ⟨_,_,Q,by simp only[aJ];exact fD (nw g hI) _ _ hN,bJ.2 ⟨_,_,Q,by simp only[aJ];exact fD (nw g hI) _ _ hE,by simp only[bu]⟩⟩⟩
 have rA:RP (eh I H H2) (aO [(i:U)]) (.slice Z.ae 0 1 X):=by
  have an:eh I H H2 Z.ae=O ⟨[ao (i:U)],Z.ae,0,V,W,1⟩:=by rw[show eh I H H2 Z.ae=H2.ah.get Z.ae from abc (G:=Mn I) n1];exact o2.row
  show RP _ (.sl [[eI (i:U)]] X) _;simp only[RP];exact .inr ⟨Z.ae,0,X,_,1,Q,an,.inr ⟨Q,Q⟩,aw,by simp[cx,dq,RP,jP]⟩
 have aC:bu ρ0 (eh I H H2) [.agg [.sl tn X,.sl te X],aO [(i:U)]] [.agg [sN,sE],.slice Z.ae 0 1 X]:=bJ.2 ⟨_,_,Q,rT,bJ.2 ⟨_,_,Q,by simp only[aJ];exact rA,by simp only[bu]⟩⟩;obtain⟨x,K3,e1,e2,e3,e4,e5⟩:=yo (ng:=ng) (Vd (ng:=ng)) qY uT g hI g2 ay aM Q Q aC;have e5:x=ao 0:=by simp only[aJ]at e5;exact e5.1
 subst e5;have Y:=ay.trans e3;have aV:bO I K3.ah.get:=λ u r e=>Y.row u r (hI u r e) aw
 obtain⟨s,K4,fm,ds,c1,c2,c3,c4,c5,c6⟩:=ayL (ng:=ng) (I:=I) ht am (sE:=sE) hN i hi K3 e2 aV;rw[av,br]at c4;rw[av]at c6;have ax:=Y.trans c2;have M:∀{K:aj},Fr X Z K->cr af K.ah.get 34 (.ptr H.ae 0)=O (.agg [sN,sE]):=λ {K} fr=>Ii (by have:=fr.row _ _ o1.row aw;simp only[aQ,this];rfl)
 have aD:dh af 47 s=O (ao (gu ats.length)):=c4.read.dh akz;have aI:ds.length=ats.length*4:=c4.1;refine lp Tryz.func168 Q ?_;show bB af ng (bZ ng) 36 _ _ _ _;have a0:ai (eH [.agg [sN,sE],ao (i:U)] 0 .nil) 0=.agg [sN,sE]:=rfl;have a1:ai (eH [.agg [sN,sE],ao (i:U)] 0 .nil) 1=ao (i:U):=rfl;have hc:(au.agg [sN,sE]).cells=[sN,sE]:=rfl;refine aB (aS (H':=Z) (λ T=>ai T 2=.ptr H.ae 0) (jG a0 hc aY) ?_);intro T1 t2 k1;have b1:=aL k1 a1;refine aB (aB (aS (H':=K3) (λ T=>ai T 6=ao 0) (mN @b1 t2 (M (Fr.refl _ _)) (M f2) @Hl aX @aJx e1) ?_));intro T2 t6 k2;obtain⟨b1,t2⟩:=jA k2 b1 t2;refine aB (aS (H':=K3) (λ T=>ai T 14=.bool W) t6 ?_);intro T3 al k3;obtain⟨b1,t2⟩:=jA k3 b1 t2;refine eX (by rw[fQ,al]) (λ h=>bk) (λ _=>fZ ?_);refine aB (aS (H':=K4) (λ T=>ai T 7=s) (xK @b1 t2 (M (f2.trans e3)) @agI c1) ?_);intro T4 t7 k4;refine aB (aB (aS (H':=K4) (λ T=>ai T 20=ao (gu ats.length)/\ai T 21=aW 0) (iy t7 aD) ?_))
 rintro T5 ⟨ak,S⟩ k5
 have t7:=aL k5 t7;refine gR (pq (λ mm T K=>∃(i:R) (cs:aF),mm+i=ats.length/\cm K 4 ats.length s cs fm/\cs.length=ds.length/\Fr fm K4 K/\Good K/\(∀k,i*4<=k->cs[k]? =ds[k]?)/\(∀j x,j<i->ats[j]? =O x->wG.rel K.ah.get (λ f=>f<K4.ae) x (iF cs 4 j))/\ai T 7=s/\ai T 20=ao (gu ats.length)/\ai T 21=aW i) ?_ ats.length _ _ ⟨0,ds,aa,c4,Q,Fr.refl _ _,c3,λ _ _=>rfl,λ j x h=>aa,t7,ak,S⟩);clear t7 ak S k1 k2 k3 k4 k5 b1 t2 t6 al
 have ag:∀f,fm=O f->f<K4.ae:=λ f e=>by
  obtain⟨_,⟨_,_,h⟩|⟨v,r,_,o,_,_,_,h⟩⟩:=c4;.rw[h]at e;cases e
  rw[h]at e;cases e;exact(c3.wf v r o.row).2
 rintro mm T K ⟨i,cs,hm,oK,aN,ad,gk,ac,J,N,D,A⟩
 refine aB (aS (H':=K) (λ T=>ai T 22=.bool (decide (gu i<gu ats.length))) (iy D A) ?_);intro T6 az k6;obtain⟨N,D,A⟩:=pB k6 N D A;have ab:Fr X H K:=ax.jv g ad λ f e=>fI Y.ae (c5 f e)
 refine aB (eX (by rw[fQ,az]) (λ F=>?_) (λ aq=>?_))
 .have F:i<ats.length:=bP;obtain⟨c,ar,aG⟩:=aGm c6 (eg F);have a2:i*4+4<=ds.length:=aa
  have aR:iF cs 4 i=iF ds 4 i:=by
   refine sI λ k=>?_
   simp only[iF,wT,Eu];split;.exact ac _ aa
   rfl
  have aT:cs[i*4+3]? =O c:=by
   have h3:(iF ds 4 i)[3]? =O c:=by rw[ar];rfl
   grind[iF]
  have aU:bO I K.ah.get:=λ u r e=>ab.row u r (hI u r e) aw
  obtain⟨y,o,x1,_,x2⟩:=oK.read.index (i:=i) F akz Wx Q;have ld:=ayn (x2 3 c cB aT);obtain⟨c',K5,q1,q2,q3,q4,q5⟩:=aDz (ng:=ng) gk aU aG (aH _ (qP F));obtain⟨v,off,K6,p1,p2,p3,p4,p5⟩:=cm.amW (P:=af) q3 (oK.nQ q2) (i:=i) F (k:=3) cB (c:=c') q4 akz Wx Q;have aZ:au.ptr y o=.ptr v off:=tO ((x1 .i64).symm.trans (p1 .i64));obtain⟨rfl,rfl⟩:y=v/\o=off:=bP;have ap:∀{t:bj},cY af .add t (aW i) (ao 1)=O (aW (i+1)):=uZ aa;have aE:=(aw5 (H:=K5) (v:=y) (off:=o+3) q4).trans p2;refine fZ (aB (gR (aB (aS (H':=K) (λ T=>ai T 8=aW i) A ?_))));intro T7 t8 k7;obtain⟨N,D,A⟩:=pB k7 N D A;refine aS (H':=K6) (λ _=>agl) (mN N t8 x1 p1 @aEz ld @aGl (iy q1 aE)) ?_;intro T8 _ k8;obtain⟨N,D,A⟩:=pB k8 N D A;refine aS (H':=K6) (λ T=>ai T 21=aW (i+1)) (iy A @ap) ?_;intro T9 S k9;have hS:∀f,fm=O f->(λ f=>f<K4.ae) f:=ag;refine⟨mm- 1,aa,i+1,cs.set (i*4+3) c',aa,p3,by rw[zB];exact aN,(ad.trans q2.any).trans p4,p5,λ k hk=>?_,λ j x hj hx=>?_,aL k9 N,aL k9 D,S⟩;.grind[ahR]
  by_cases aK:j<i
  .have:iF (cs.set (i*4+3) c') 4 j=iF cs 4 j:=by
    refine sI λ k=>?_
    simp only[iF,wT,Eu];split;.grind[ahR]
    rfl
   rw[this];exact wG.keep p4 hS (wG.nQ q2 (J j x aK hx))
  obtain rfl:j=i:=aa;rw[eg F]at hx;cases hx
  have:iF (cs.set (j*4+3) c') 4 j=[.str ats[j].1,ao ats[j].2.1,ao ats[j].2.2.1,c']:=by
   have e:iF (cs.set (j*4+3) c') 4 j=(iF cs 4 j).set 3 c':=by
    refine sI λ k=>?_
    by_cases h3:k=3;.grind[List.getElem?_set_self,iF]
    rw[aea aa];simp only[iF,wT,Eu];split;.grind[ahR]
    rfl
   rw[e,aR,ar];rfl
  rw[this];exact akl ((m9 yS).keep p4 hS ((m9 yS).sub (λ f hf=>eU hf ad.ae) q5))
 .have aq:i=ats.length:=CL;subst aq;refine mY ?_;show bB af ng (bZ ng) 36 _ _ _ _;refine aB (aS (H':=K) (λ T=>ai T 4=s/\ai T 5=ao 0) N ?_)
  rintro T7 ⟨t4,t5⟩ _
  refine iZ ⟨aw,[s,ao 0],?_,s,Q,ab,gk,s,cs,Q,oK.Pk (λ f e h=>?_),λ j x hx=>wG.sub (λ f hf=>?_) (J j x (pC.1 hx).1 hx)⟩;.show eG af _ _ [.tmp 4,.tmp 5]=_;simp only[eG,t4,t5]
  .have:=c5 f e;have:=Y.ae;have h:f<H.ae:=h;omega
  exact eU hf ax.ae
end
end
end Go.Abs
