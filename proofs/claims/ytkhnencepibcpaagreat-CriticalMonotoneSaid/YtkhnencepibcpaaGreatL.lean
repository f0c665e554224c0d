/- Rules of predicates. -/
import Derived.Test.YtkhnencepibcpaaGreatF
import Derived.Test.YtkhnencepibcpaaGreatI
import Derived.Test.YtkhnencepibcpaaGreatJ
import Derived.KernelRfl
set_option linter.all false
set_option maxRecDepth 100000
open Bool renaming false->W,true->V
open Nat renaming beq->gr
open Option renaming none->X,some->O
open _root_ renaming Int->U,List->B,Nat->R,Option->gw,rfl->Q,trivial->sp
namespace Go.Abs
noncomputable section
open Go Go.Proofs
variable{a b i p:U}{e l:be}{j:R}{s:jo}{ρ:bC}
section
variable{l:B vy}
variable{P:aA}{gl:bH}{pol:pz}{bset:uk}{base:fi}
def Ut(P:aA)(gl:bH)(pol:pz)(bset:uk)(base:fi)(tb:iP)(l:B vy)(p:vy):Prop:=
 ((∀q∈l,q.1<p.1->dA (vω P pol gl bset base) tb q.2.2.1 q.2.2.2 X)->dA (vω P pol gl bset base) tb p.2.2.1 p.2.2.2 X)\/
 V3 P gl pol bset base tb l p
def atz{tb:iP}(M:kh tb)(N:I0 l=V)(h:xA (Ut P gl pol bset base tb l) l):∀p∈l,dA (vω P pol gl bset base) tb p.2.2.1 p.2.2.2 none:=by
 have D:∀(i) (p),p∈l->p.1<i->dA (vω P pol gl bset base) tb p.2.2.1 p.2.2.2 none:=by
  intro i;induction i with
  |zero=>omega
  |succ i J=>
   intro p A Y;rcases h.mem p A with h1|h1|⟨C,F,m,e1,e2,e3,e4,e5,e6,e7,e8⟩
   .exact h1 λ q y S=>J q y aa
   .exact h1
   subst e1;refine Mo M e3 e4 e5 (λ Z g c K=>?_) e6 e7 e8;rw[e2]at K;obtain⟨q,y,q1,q2,u⟩:=Uo K;rcases u with u|u
   .subst q1 q2;exact .inl (J q y aa)
   have:=Yq N q y p A u.1;subst this;exact .inr ⟨q1.symm,q2.symm,q2▸u.2⟩
 exact λ p A=>D _ p A (kF _)
def awY{tb:iP}(N:kh tb){r:R}(S:I0 l=V)(h:xA (λ p=>p.1<r->Ut P gl pol bset base tb l p) l):∀p∈l,p.1<r->dA (vω P pol gl bset base) tb p.2.2.1 p.2.2.2 none:=by
 have J:∀(i) (p),p∈l->p.1<i->p.1<r->dA (vω P pol gl bset base) tb p.2.2.1 p.2.2.2 none:=by
  intro i;induction i with
  |zero=>omega
  |succ i K=>
   intro p D Z u;rcases h.mem p D u with h1|h1|⟨C,F,m,e1,e2,e3,e4,e5,e6,e7,e8⟩
   .exact h1 λ q A Y=>K q A aa aa
   .exact h1
   subst e1;refine Mo N e3 e4 e5 (λ f' g c M=>?_) e6 e7 e8;rw[e2]at M;obtain⟨q,A,q1,q2,y⟩:=Uo M;rcases y with y|y
   .subst q1 q2;exact .inl (K q A aa aa)
   have:=Yq S q A p D y.1;subst this;exact .inr ⟨q1.symm,q2.symm,q2▸y.2⟩
 exact λ p D u=>J _ p D (kF _) u
end
section
variable{e':be}{j':R}{t ty:U}
abbrev VL:=aP
abbrev vI(n:U):ak:=.sc (.int .i64 n)
def WQ(a b:jo):Prop:=a≠b
def nh(x y:VL):Prop:=∀(i:R) e,x[i]? =O e->y[i]? =O e
def Of(s:jo)(i:U):Prop:=(i=0/\s=[111,102,102])\/(i=1/\s=[111,110])
def Qy(x y k:U):Prop:=1<=k->x=0/\y+1=k
def tU(s:jo)(c:U):Prop:=∃b:UInt8,s=[b]/\(b.toNat:U)=c
def aeV(e:be)(P:jo->Prop):Prop:=∃s r,e=.sc (.str s)::r/\P s
def Gm(r:VL)(p:U):Prop:=∀(i:R) e,r[i]? =O e->aeV e λ s=>tU s (p+117)
def wD(r:VL)(p:U):Prop:=∀(i:R) e,r[i]? =O e->aeV e λ s=>∃b,tU s b/\b<=p+117
def Ck(x y:VL):Prop:=∀(i:R) e e',x[i]? =O e->y[i]? =O e'->e=e'
def Xc(k x y:VL):Prop:=∀(i:R) e,k[i]? =O e->∀a b,(e[4]? =O (.sl a X)->Ck x a)/\(e[5]? =O (.sl b X)->Ck y b)
def HJ(x:VL)(i n:U):Prop:=∀(j:R) a f t,(j:U)<i->x[j]? =O [vI a,vI f,vI t]->f<n/\t<n
def TO(j t n:U):Prop:=n<=j\/t<=j
def Nf(l:VL)(i m n:U):Prop:=∀(j:R) e,(j:U)<i->l[j]? =O e->∃t a b:U,e=[vI t,vI a,vI b]/\0<=t/\t<=m- 1/\0<=a/\a<=n- 1/\0<=b/\b<=n- 1
def BV(l:VL)(i h:U):Prop:=∀(j:R) e,(j:U)<i->l[j]? =O e->∃v:U,e=[vI v]/\0<=v/\v<=h- 1
def Lb(l:VL)(i:U):Prop:=∀(j:R) e,(j:U)<i->l[j]? =O e->∃v:U,e=[vI v]/\0<=v/\v<=99
def uS(k i j:U):Prop:=k<=8*i+j
def E9(l:VL):Prop:=∀(j:R) e,l[j]? =O e->e=[vI j]
def pTR(l r:VL):Prop:=l.length=r.length->E9 l->E9 r
def Gf(a h x y z w:U):Prop:=h<=a\/y<x\/w<z
def PF(a b c d:U):Prop:=a<b\/c<d
def aCN(l:VL):Prop:=∃(j:R) (v:U),l[j]? =O [vI v]/\v<0
section
variable(TN TE:VL)
def yj(x y:VL):Prop:=x=TN/\y=TE
def Jf(v i:U):Prop:=∀(j:R) e,(j:U)<i->TN[j]? =O e->e[1]?≠O (vI v)
def NS(v:U):Prop:=0<=v/\v<TN.length/\Jf TN v TN.length
def GB(k a i:U):Prop:=NS TN a->k<=0\/(k<=1/\a<i)
inductive yv (TN:VL):U->U->Prop
 |refl (a:U):yv TN a a
 |step {a:R} {p b:U} {e:B ak}:TN[a]? =some e->e[1]? =some (vI p)->yv TN p b->yv TN a b
def Jq(a b:U):Prop:=yv TN a b
def SC(a b:U):Prop:=¬yv TN a b
def J7(ty a b:U):Prop:=∀(q:R) e f t,ty=q->TE[q]? =O e->e[1]? =O (vI f)->e[2]? =O (vI t)->yv TN a f/\yv TN b t
def Sr(ty a b:U):Prop:=¬J7 TN TE ty a b
def CG(x y:VL):Prop:=∀(k:R) e,y[k]? =O e->∃(ty:U) (f t:R) (a b:U),e=[vI ty,vI f,vI t]/\x[f]? =O [vI a]/\x[t]? =O [vI b]/\J7 TN TE ty a b
def Zr(a:U):Prop:=0<=a/\a<TE.length
end
variable(TN TE:aP)in
def prC:R->sY->Prop
 |104,[a0,a1]=>a0.i=a1.i
 |105,[a0,a1]=>a0.i≠a1.i
 |106,[a0,a1]=>WQ a0.s a1.s
 |107,[a0,a1]=>nh a0.l a1.l
 |109,[a0,a1]=>a0.i<=a1.i
 |110,[a0,a1]=>Of a0.s a1.i
 |111,[a0,a1,a2]=>Qy a0.i a1.i a2.i
 |112,[a0,a1]=>tU a0.s a1.i
 |113,[a0,a1]=>Gm a0.l a1.i
 |114,[a0,a1]=>wD a0.l a1.i
 |115,[a0,a1]=>yj TN TE a0.l a1.l
 |116,[a0]=>NS TN a0.i
 |117,[a0,a1]=>CG TN TE a0.l a1.l
 |118,[a0,a1]=>Ck a0.l a1.l
 |119,[a0,a1,a2]=>Xc a0.l a1.l a2.l
 |120,[a0,a1,a2]=>J7 TN TE a0.i a1.i a2.i
 |121,[a0,a1,a2]=>Sr TN TE a0.i a1.i a2.i
 |122,[a0,a1]=>SC TN a0.i a1.i
 |123,[a0,a1]=>Jq TN a0.i a1.i
 |124,[a0,a1,a2]=>HJ a0.l a1.i a2.i
 |125,[a0,a1,a2]=>TO a0.i a1.i a2.i
 |126,[a0,a1,a2]=>GB TN a0.i a1.i a2.i
 |127,[a0,a1,a2,a3]=>Nf a0.l a1.i a2.i a3.i
 |128,[a0,a1,a2]=>BV a0.l a1.i a2.i
 |129,[a0,a1,a2]=>uS a0.i a1.i a2.i
 |130,[a0]=>E9 a0.l
 |131,[a0,a1,a2,a3]=>PF a0.i a1.i a2.i a3.i
 |132,[a0,a1]=>pTR a0.l a1.l
 |133,[a0,a1,a2,a3,a4,a5]=>Gf a0.i a1.i a2.i a3.i a4.i a5.i
 |134,[a0]=>aCN a0.l
 |135,[a0]=>Zr TE a0.i
 |136,[a0,a1]=>Jf TN a0.i a1.i
 |137,[a0,a1]=>Lb a0.l a1.i
 |100,[a,b,z]=>Ih 100 a.i b.i=pure (.int .u64 z.i)
 |101,[a,b,z]=>Ih 101 a.i b.i=pure (.int .u64 z.i)
 |102,[a,b,z]=>Ih 102 a.i b.i=pure (.int .u64 z.i)
 |103,[a,b,z]=>Ih 103 a.i b.i=pure (.int .u64 z.i)
 |_,_=>False
def aC(TN TE:aP):iP:=⟨λ i=>tbL[i]?,prC TN TE,aAa⟩
variable{TN TE:aP}
def alQ(tb:iP)(ρ:bC):B Gl->Prop
 |[]=>True
 |p::l=>KD tb ρ p/\alQ tb ρ l
def dU{tb:iP}:∀{l:B Gl},(∀p∈l,KD tb ρ p)->alQ tb ρ l
 |[],_=>trivial
 |p::l,h=>⟨h p dJ,dU λ q u=>h q (cV _ u)⟩
def z0(h0:ρ 0=SV.z):(ρ 0).i=0:=by rw[h0];rfl
def WC(h0:ρ 0=SV.z):(ρ 0).l=[]:=by rw[h0];rfl
def Xs(h:tU s a)(k:tU s b):a=b:=by obtain⟨x,rfl,rfl⟩:=h;obtain⟨y,e,rfl⟩:=k;cases e;rfl
def amn{r:VL}(h:wD r p)(u:r[j]? =O (.sc (.str s)::l))(k:tU s b):b<=p+117:=by obtain⟨y,A,e,c,h1,h2⟩:=h j _ u;cases e;rw[Xs k h1];exact h2
def Vc{r:VL}(h:Gm r p)(u:r[j]? =O (.sc (.str s)::l)):tU s (p+117):=by obtain⟨y,A,e,h1⟩:=h j _ u;cases e;exact h1
def akS{q r:VL}(h1:nh q r)(h2:(q.length:U)=i)(P:(r.length:U)=i+1)(N:i=j)(F:r[j]? =O (.sc (.str s)::l))(k:tU s b)(J:b<=a+117)(D:wD q p)(K:p<=a):wD r a:=λ m e u=>by
 by_cases hm:m<q.length;.have e1:=eg hm;have e2:=h1 m _ e1;rw[u]at e2;cases e2;obtain⟨y,A,e',c,h5,M⟩:=D m _ e1;exact⟨y,A,e',c,h5,aa⟩
 have:=wj u;obtain rfl:m=j:=aa;rw[F]at u;cases u;exact⟨_,_,Q,b,k,J⟩
def xy{x y:VL}(h:Ck x y)(h1:i=j)(h2:x[j]? =O e)(A:i=j')(u:y[j']? =O e'):e=e':=by obtain rfl:j=j':=aa;exact h j _ _ h2 u
def Ds{x y:VL}(h:nh x y):Ck x y:=λ i e e' h1 h2=>by rw[h i e h1]at h2;cases h2;rfl
def zn{x y:VL}(h:Ck x y):Ck y x:=λ i e e' h1 h2=>(h i e' e h2 h1).symm
def Jy{x l y:VL}(h:nh x l)(k:Ck l y):Ck x y:=λ i e e' h1 h2=>k i e e' (h i e h1) h2
def af7{q r g:VL}(h1:nh q r)(h2:(q.length:U)=i)(J:(r.length:U)=i+1)(F:i=j)(h5:r[j]? =O e)(D:i=j')(u:g[j']? =O e')(y:e=e')(A:nh q g):nh r g:=λ m x hx=>by
 by_cases hm:m<q.length;.have e1:=eg hm;have e2:=h1 m _ e1;rw[hx]at e2;cases e2;exact A m _ e1
 have:=wj hx;obtain rfl:m=j:=aa;obtain rfl:m=j':=aa;rw[h5]at hx;cases hx;rw[<-y]at u;exact u
def aa0{n:U}(h:yv TN b n)(k:NS TN n):b=n:=by
 induction h with
 |refl=>rfl
 |step h1 h2 y u=>
  have:=u k;subst this;exact absurd h2 (k.2.2 _ _ (by have:=wj h1;omega) h1)
def afO{x y:VL}(h:CG TN TE x y){k:R}{f:U}{f' t':R}(h1:y[k]? =O [vI ty,vI f,vI t])(h2:f=f')(u:x[f']? =O [vI a])(J:t=t')(h5:x[t']? =O [vI b]):J7 TN TE ty a b:=by obtain⟨A,F,D,M,K,e,e1,e2,e3⟩:=h k _ h1;cases e;obtain rfl:F=f':=aa;obtain rfl:D=t':=aa;rw[e1]at u;cases u;rw[e2]at h5;cases h5;exact e3
def anf{q x y:VL}(h:nh q x)(k:CG TN TE q y):CG TN TE x y:=λ i e u=>by obtain⟨ty,f,t,a,b,A,e1,e2,e3⟩:=k i e u;exact⟨ty,f,t,a,b,A,h _ _ e1,h _ _ e2,e3⟩
def aol{x m y:VL}(h:nh x m)(k:nh m y):nh x y:=λ i e u=>k i e (h i e u)
def aem{c d:U}{q:R}{n:ak}(h:ty=q)(y:TE[q]? =O (n::vI c::vI d::l))(u:SC TN a c\/SC TN b d):Sr TN TE ty a b:=λ k=>by
 have:=k q _ c d h y Q Q;rcases u with u|u
 .exact u this.1
 exact u this.2
def axH:∀nm d,(aC TN TE).td nm=O d->d.facts.all (ik.low nm)=true/\d.p+2<=d.k:=by intro nm d h;have u:tbL.zipIdx.all (λ p=>p.1.facts.all (ik.low p.2)&&Nat.ble (p.1.p+2) p.1.k)=true:=aH;have hm:(d,nm)∈tbL.zipIdx:=aKl.2 h;have:=iw.1 u _ hm;rw[bq]at this;exact⟨this.1,Hc this.2⟩
def Vs{nm:R}{d:ym}(K:(aC TN TE).td nm=O d){bs:aK}{j:U}(D:bs.length=d.p){env:sY}(h1:env=SV.z::bs.map (λ n=>⟨n,W,[],[]⟩)++⟨j,W,[],[]⟩::env.drop (d.p+2))(h2:env.length<=d.k)
 (N:e=aT (aX env) d.cells) (M:∀f∈d.facts,cL (aC TN TE) (aX env) f) (F:d.facts.all (ik.low nm)=V):de (aC TN TE) nm bs j e:=by
 rw[de,K];refine⟨D,env,h1,h2,N,λ f u=>?_⟩;have h:=M f u;have y:=iw.1 F f u;cases f with
 |sl x n c A P=>
  refine⟨h.1,λ i e J=>?_⟩;rw[OG (ph y)];exact h.2 i e J
 |le a b c=>exact h
 |str x s=>exact h
 |bb x b=>exact h
 |el x i c cells=>cases y
 |sum z a b c=>exact h
 |pr k l=>exact h
theorem adr{v j:U}(h1:a<=v)(h2:v<=b):de (aC TN TE) 0 [a,b] j [.sc (.int .i64 v)]:=by
 refine Vs (nm:=0) (d:=⟨5,2,[.int .i64 4 0],[.le 1 4 0,.le 4 2 0]⟩) Q Q (env:=[SV.z,⟨a,W,[],[]⟩,⟨b,W,[],[]⟩,⟨j,W,[],[]⟩,⟨v,W,[],[]⟩]) Q (aZ _) ?_ ?_ Q;.show _=[ak.sc (.int .i64 (v+0))];rw[fJ]
 intro f u;simp only[cg,lr,lQ]at u;rcases u with rfl|rfl
 .show a<=v+0;omega
 show v<=b+0;omega
theorem ads{j:U}:de (aC TN TE) 1 [] j [.sc (.int .i64 j)]:=by
 refine Vs (nm:=1) (d:=⟨2,0,[.int .i64 1 0],[]⟩) Q Q (env:=[SV.z,⟨j,W,[],[]⟩]) Q (aZ _) ?_ ?_ Q;.show _=[ak.sc (.int .i64 (j+0))];rw[fJ]
 intro f u;cases u
theorem aos{y fl u j:U}(h1:0<=t)(h2:t<=y)(J:fl<=a)(F:a<=u)(h5:fl<=b)(D:b<=u):de (aC TN TE) 12 [y,fl,u] j [.sc (.int .i64 t),.sc (.int .i64 a),.sc (.int .i64 b)]:=by
 refine Vs (nm:=12) (d:=⟨8,3,[.int .i64 5 0,.int .i64 6 0,.int .i64 7 0],[.le 0 5 0,.le 5 1 0,.le 2 6 0,.le 6 3 0,.le 2 7 0,.le 7 3 0]⟩) Q Q (env:=[SV.z,⟨y,W,[],[]⟩,⟨fl,W,[],[]⟩,⟨u,W,[],[]⟩,⟨j,W,[],[]⟩,⟨t,W,[],[]⟩,⟨a,W,[],[]⟩,⟨b,W,[],[]⟩]) Q (aZ _) ?_ ?_ Q;.show _=[ak.sc (.int .i64 (t+0)),ak.sc (.int .i64 (a+0)),ak.sc (.int .i64 (b+0))];rw[fJ,fJ,fJ]
 intro f A;simp only[cg,lr,lQ]at A;rcases A with rfl|rfl|rfl|rfl|rfl|rfl
 .show(0:U)<=t+0;omega
 .show t<=y+0;omega
 .show fl<=a+0;omega
 .show a<=u+0;omega
 .show fl<=b+0;omega
 show b<=u+0;omega
def rM {r : Mg} (h : di (aC TN TE) r := by
    intro ρ h0 F
    have q := dU F
    first
    | (obtain ⟨u, -⟩ := q; first | exact u | exact zn u | exact Ds u | exact zn (Ds u) | (show (_ : Int) ≠ _; have q : (_ : Int) ≠ _ := u; omega) | (show (_ : Int) ≠ _; have q : (_ : Int) ≤ _ := u; omega))
    | (obtain ⟨u, q1, -⟩ := q; first | exact aol u q1 | exact Jy u q1 | exact Jy u (zn q1) | (obtain ⟨_, -, h⟩ := q1; first | exact (u _ _ h _ []).1 rfl | exact (u _ _ h [] _).2 rfl))
    | (first
      | (obtain ⟨u, q1, ⟨_, h1, h2⟩, ⟨_, A, y⟩, -⟩ := q
         first
         | have e := xy (Jy u q1) h1 h2 A y
         | have e := xy (Jy u (zn q1)) h1 h2 A y
         | have e := xy (zn (Jy u q1)) h1 h2 A y
         | have e := xy (zn (Jy u (zn q1))) h1 h2 A y
         | (obtain ⟨_, -, D⟩ := q1
            first
            | have e := xy ((u _ _ D [] _).2 rfl) h1 h2 A y
            | have e := xy (zn ((u _ _ D [] _).2 rfl)) h1 h2 A y
            | have e := xy ((u _ _ D _ []).1 rfl) h1 h2 A y
            | have e := xy (zn ((u _ _ D _ []).1 rfl)) h1 h2 A y))
      | (obtain ⟨u, ⟨_, h1, h2⟩, ⟨_, A, y⟩, -⟩ := q
         first
         | have e := xy u h1 h2 A y
         | have e := xy (zn u) h1 h2 A y
         | have e := xy (Ds u) h1 h2 A y
         | have e := xy (zn (Ds u)) h1 h2 A y)
       first
       | (injection e with a _; injection a with a; injection a; done)
       | (injection e with _ e; injection e with a _; injection a with a; injection a; done)
       | (injection e with _ e; injection e with _ e; injection e with a _; injection a with a; injection a; done)
       | (injection e with _ e; injection e with _ e; injection e with _ e; injection e with a _; injection a with a; injection a; done))) : di (aC TN TE) r := h
def r0:di (aC TN TE) (rl 0):=λ ρ h0 y=>by obtain⟨u,q1,q2,-⟩:=dU y;have u:tU (ρ 1).s ((ρ 3).i+0):=u;have q1:tU (ρ 2).s ((ρ 4).i+0):=q1;have q2:(ρ 3).i<=(ρ 4).i+(-1):=q2;exact λ e=>by have:=Xs (e▸u) q1;omega
def r1:di (aC TN TE) (rl 1):=λ ρ h0 y=>by obtain⟨u,q1,q2,-⟩:=dU y;have u:tU (ρ 1).s ((ρ 3).i+0):=u;have q1:tU (ρ 2).s ((ρ 4).i+0):=q1;have q2:(ρ 4).i<=(ρ 3).i+(-1):=q2;exact λ e=>by have:=Xs (e▸u) q1;omega
def r2:di (aC TN TE) (rl 2):=λ ρ h0 y=>by obtain⟨u,q1,q2,-⟩:=dU y;have u:Of (ρ 1).s ((ρ 3).i+0):=u;have q1:Of (ρ 2).s ((ρ 4).i+0):=q1;have q2:(ρ 3).i<=(ρ 4).i+(-1):=q2;show WQ (ρ 1).s (ρ 2).s;intro e;rw[e]at u;rcases u with⟨a,b⟩|⟨a,b⟩<;>rcases q1 with⟨c,d⟩|⟨c,d⟩<;>first|omega|(rw[b]at d;cases d)
def r3:di (aC TN TE) (rl 3):=λ ρ h0 y=>by obtain⟨u,q1,q2,-⟩:=dU y;have u:Of (ρ 1).s ((ρ 3).i+0):=u;have q1:Of (ρ 2).s ((ρ 4).i+0):=q1;have q2:(ρ 4).i<=(ρ 3).i+(-1):=q2;show WQ (ρ 1).s (ρ 2).s;intro e;rw[e]at u;rcases u with⟨a,b⟩|⟨a,b⟩<;>rcases q1 with⟨c,d⟩|⟨c,d⟩<;>first|omega|(rw[b]at d;cases d)
def r4:di (aC TN TE) (rl 4):=λ ρ h0 A=>by obtain⟨u,q1,q2,y,-⟩:=dU A;have u:wD (ρ 3).l ((ρ 4).i+0):=u;have q2:tU (ρ 2).s ((ρ 9).i+0):=q2;have y:(ρ 4).i<=(ρ 9).i+(-118):=y;obtain⟨j,-,h⟩:=q1;intro e;have:=amn u h (e▸q2);omega
def r5:di (aC TN TE) (rl 5):=λ ρ h0 D=>by obtain⟨u,q1,q2,A,y,-⟩:=dU D;have u:wD (ρ 3).l ((ρ 4).i+0):=u;have q2:Gm (ρ 9).l ((ρ 10).i+0):=q2;have y:(ρ 4).i<=(ρ 10).i+(-1):=y;obtain⟨j,-,h⟩:=q1;obtain⟨k,-,h2⟩:=A;intro e;have:=amn u h (e▸Vc q2 h2);omega
def r6:di (aC TN TE) (rl 6):=λ ρ h0 y=>by obtain⟨u,q1,-⟩:=dU y;have u:Gm (ρ 1).l ((ρ 3).i+0):=u;have q1:(ρ 3).i<=(ρ 2).i+0:=q1;show wD (ρ 1).l ((ρ 2).i+0);intro i e A;obtain⟨s,r,e1,e2⟩:=u i e A;exact⟨s,r,e1,_,e2,aa⟩
def r7:di (aC TN TE) (rl 7):=λ ρ h0 y=>by obtain⟨u,q1,-⟩:=dU y;have u:wD (ρ 1).l ((ρ 3).i+0):=u;have q1:(ρ 3).i<=(ρ 2).i+0:=q1;show wD (ρ 1).l ((ρ 2).i+0);intro i e A;obtain⟨s,r,e1,c,e2,e3⟩:=u i e A;exact⟨s,r,e1,c,e2,aa⟩
def r8:di (aC TN TE) (rl 8):=λ ρ h0 K=>by obtain⟨J,q1,q2,F,y,D,u,A,-⟩:=dU K;have q2:((ρ 1).l.length:U)=(ρ 4).i+1:=q2;have y:tU (ρ 5).s ((ρ 9).i+0):=y;have D:(ρ 9).i<=(ρ 2).i+117:=D;have u:wD (ρ 3).l ((ρ 10).i+0):=u;have A:(ρ 10).i<=(ρ 2).i+0:=A;show wD (ρ 1).l ((ρ 2).i+0);obtain⟨j,h,h2⟩:=F;exact akS J q1 aa aa h2 y aa u aa
def r9:di (aC TN TE) (rl 9):=λ ρ h0 M=>by obtain⟨K,q1,q2,J,y,F,D,u,A,-⟩:=dU M;have q2:((ρ 1).l.length:U)=(ρ 4).i+1:=q2;have y:Gm (ρ 9).l ((ρ 10).i+0):=y;have D:(ρ 10).i<=(ρ 2).i+0:=D;have u:wD (ρ 3).l ((ρ 11).i+0):=u;have A:(ρ 11).i<=(ρ 2).i+0:=A;show wD (ρ 1).l ((ρ 2).i+0);obtain⟨j,h,h2⟩:=J;obtain⟨k,-,N⟩:=F;exact akS K q1 aa aa h2 (Vc y N) aa u aa
def G6:di (aC TN TE) (rl 10):=λ ρ h0 A=>by obtain⟨u,q1,q2,y,-⟩:=dU A;have u:Gm (ρ 3).l ((ρ 4).i+0):=u;have q2:(ρ 4).i<=(ρ 2).i+(-117):=q2;have y:(ρ 2).i<=(ρ 4).i+117:=y;show tU (ρ 1).s ((ρ 2).i+0);obtain⟨j,-,h⟩:=q1;obtain⟨b,e,e2⟩:=Vc u h;exact⟨b,e,aa⟩
def Nr:di (aC TN TE) (rl 11):=λ ρ h0 A=>by obtain⟨u,q1,q2,y,-⟩:=dU A;have u:Qy ((ρ 1).i+0) ((ρ 3).i+0) ((ρ 4).i+0):=u;have q1:(ρ 0).i<=(ρ 4).i+(-1):=q1;have q2:(ρ 0).i<=(ρ 2).i+0:=q2;have y:(ρ 2).i<=(ρ 0).i+0:=y;show((ρ 1).i+0)=((ρ 2).i+0);have:=u (by have:=z0 h0;omega);have:=z0 h0;omega
def Yo:di (aC TN TE) (rl 12):=λ ρ h0 A=>by obtain⟨u,q1,q2,y,-⟩:=dU A;have u:Qy ((ρ 3).i+0) ((ρ 1).i+0) ((ρ 4).i+0):=u;have q1:(ρ 0).i<=(ρ 4).i+(-1):=q1;have q2:(ρ 4).i<=(ρ 2).i+1:=q2;have y:(ρ 2).i<=(ρ 4).i+(-1):=y;show((ρ 1).i+0)=((ρ 2).i+0);have:=u (by have:=z0 h0;omega);have:=z0 h0;omega
def r13:di (aC TN TE) (rl 13):=λ ρ h0 u=>by exact λ i e h=>h
def r23:di (aC TN TE) (rl 23):=λ ρ h0 y=>by obtain⟨u,-⟩:=dU y;have u:(ρ 1).i<=(ρ 2).i+(-1):=u;show((ρ 1).i+0)≠((ρ 2).i+0);omega
def r24:di (aC TN TE) (rl 24):=λ ρ h0 y=>by obtain⟨u,-⟩:=dU y;have u:(ρ 2).i<=(ρ 1).i+(-1):=u;show((ρ 1).i+0)≠((ρ 2).i+0);omega
def r66:di (aC TN TE) (rl 66):=λ ρ h0 F=>by obtain⟨D,q1,q2,A,y,u,-⟩:=dU F;have q2:((ρ 1).l.length:U)=(ρ 4).i+1:=q2;show nh (ρ 1).l (ρ 2).l;obtain⟨j,h,h2⟩:=A;obtain⟨k,K,J⟩:=y;exact af7 D q1 aa aa h2 aa J Q u
def r67:di (aC TN TE) (rl 67):=λ ρ h0 F=>by obtain⟨D,q1,q2,A,y,u,-⟩:=dU F;have q2:((ρ 1).l.length:U)=(ρ 4).i+1:=q2;show nh (ρ 1).l (ρ 2).l;obtain⟨j,h,h2⟩:=A;obtain⟨k,K,J⟩:=y;exact af7 D q1 aa aa h2 aa J Q u
def r68:di (aC TN TE) (rl 68):=λ ρ h0 A=>by obtain⟨y,q1,q2,u,-⟩:=dU A;obtain⟨j,-,h⟩:=q1;obtain⟨k,h1,h2⟩:=q2;obtain⟨m,F,D⟩:=u;exact afO y h aa h2 aa D
def r69:di (aC TN TE) (rl 69):=λ ρ h0 D=>by obtain⟨A,q1,q2,y,u,-⟩:=dU D;obtain⟨j,-,h⟩:=q2;obtain⟨k,h1,h2⟩:=y;obtain⟨m,J,F⟩:=u;exact A (afO q1 h aa h2 aa F)
def r70:di (aC TN TE) (rl 70):=λ ρ h0 y=>by obtain⟨u,q1,q2,-⟩:=dU y;have q1:yj TN TE (ρ 5).l (ρ 6).l:=q1;show Sr TN TE ((ρ 1).i+0) ((ρ 2).i+0) ((ρ 3).i+0);obtain⟨j,h,h2⟩:=q2;rw[q1.2]at h2;exact aem aa h2 (.inl u)
def r71:di (aC TN TE) (rl 71):=λ ρ h0 y=>by obtain⟨u,q1,q2,-⟩:=dU y;have q1:yj TN TE (ρ 5).l (ρ 6).l:=q1;show Sr TN TE ((ρ 1).i+0) ((ρ 2).i+0) ((ρ 3).i+0);obtain⟨j,h,h2⟩:=q2;rw[q1.2]at h2;exact aem aa h2 (.inr u)
def r72:di (aC TN TE) (rl 72):=λ ρ h0 y=>by obtain⟨u,q1,q2,-⟩:=dU y;have u:Jq TN ((ρ 1).i+0) ((ρ 2).i+0):=u;have q2:(ρ 1).i<=(ρ 2).i+(-1):=q2;have:=aa0 u q1;omega
def r73:di (aC TN TE) (rl 73):=λ ρ h0 y=>by obtain⟨u,q1,q2,-⟩:=dU y;have u:Jq TN ((ρ 1).i+0) ((ρ 2).i+0):=u;have q2:(ρ 2).i<=(ρ 1).i+(-1):=q2;have:=aa0 u q1;omega
def r74:di (aC TN TE) (rl 74):=λ ρ h0 y=>by obtain⟨u,q1,q2,-⟩:=dU y;have u:SC TN ((ρ 1).i+0) ((ρ 2).i+0):=u;have q1:(ρ 1).i<=(ρ 2).i+0:=q1;have q2:(ρ 2).i<=(ρ 1).i+0:=q2;exact u (by rw[show(ρ 1).i+0=(ρ 2).i+0 by omega];exact .refl _)
def r75:di (aC TN TE) (rl 75):=λ ρ h0 u=>by show nh (ρ 0).l (ρ 1).l;rw[WC h0];intro i e h;simp at h
def r76:di (aC TN TE) (rl 76):=λ ρ h0 u=>by show Xc (ρ 0).l (ρ 1).l (ρ 2).l;rw[WC h0];intro i e h;simp at h
def r77:di (aC TN TE) (rl 77):=λ ρ h0 u=>by show HJ (ρ 1).l ((ρ 0).i+0) ((ρ 2).i+0);intro j a f t h;have:=z0 h0;omega
def r78:di (aC TN TE) (rl 78):=λ ρ h0 D=>by
 obtain⟨u,q1,q2,A,-⟩:=dU D;have u:HJ (ρ 1).l ((ρ 2).i+0) ((ρ 3).i+0):=u;have q2:(ρ 5).i<=(ρ 3).i+(-1):=q2;have A:(ρ 6).i<=(ρ 3).i+(-1):=A;show HJ (ρ 1).l ((ρ 2).i+1) ((ρ 3).i+0);obtain⟨k,h,h2⟩:=q1;intro j a f t J y;by_cases F:j=k;.subst F;rw[h2]at y;cases y;omega
 exact u j a f t aa y
def r79:di (aC TN TE) (rl 79):=λ ρ h0 A=>by obtain⟨u,q1,q2,y,-⟩:=dU A;have u:HJ (ρ 1).l ((ρ 2).i+0) ((ρ 3).i+0):=u;have q2:(ρ 4).i<=(ρ 2).i+(-1):=q2;have y:(ρ 3).i<=(ρ 6).i+0:=y;obtain⟨k,h,h2⟩:=q1;have:=u k _ _ _ aa h2;omega
def r80:di (aC TN TE) (rl 80):=λ ρ h0 A=>by obtain⟨u,q1,q2,y,-⟩:=dU A;have u:HJ (ρ 1).l ((ρ 2).i+0) ((ρ 3).i+0):=u;have q2:(ρ 4).i<=(ρ 2).i+(-1):=q2;have y:(ρ 3).i<=(ρ 7).i+0:=y;obtain⟨k,h,h2⟩:=q1;have:=u k _ _ _ aa h2;omega
def r81:di (aC TN TE) (rl 81):=λ ρ h0 y=>by obtain⟨u,-⟩:=dU y;have u:(ρ 3).i<=(ρ 1).i+0:=u;show TO ((ρ 1).i+0) ((ρ 2).i+0) ((ρ 3).i+0);exact .inl aa
def r82:di (aC TN TE) (rl 82):=λ ρ h0 y=>by obtain⟨u,-⟩:=dU y;have u:(ρ 2).i<=(ρ 1).i+0:=u;show TO ((ρ 1).i+0) ((ρ 2).i+0) ((ρ 3).i+0);exact .inr aa
def r83:di (aC TN TE) (rl 83):=λ ρ h0 D=>by obtain⟨u,q1,q2,A,y,-⟩:=dU D;have u:TO ((ρ 3).i+0) ((ρ 2).i+0) ((ρ 4).i+0):=u;have q2:(ρ 3).i<=(ρ 1).i+0:=q2;have A:(ρ 1).i<=(ρ 2).i+0:=A;have y:(ρ 3).i<=(ρ 4).i+(-1):=y;show((ρ 1).i+0)=((ρ 2).i+0);rcases u with h|h<;>omega
def r84:di (aC TN TE) (rl 84):=λ ρ h0 y=>by obtain⟨u,-⟩:=dU y;have u:(ρ 1).i<=(ρ 0).i+0:=u;show GB TN ((ρ 1).i+0) ((ρ 2).i+0) ((ρ 3).i+0);exact λ _=>.inl (by have:=z0 h0;omega)
def r85:di (aC TN TE) (rl 85):=λ ρ h0 y=>by
 obtain⟨u,q1,-⟩:=dU y;have u:GB TN ((ρ 1).i+0) ((ρ 2).i+0) ((ρ 4).i+0):=u;have q1:(ρ 4).i<=(ρ 3).i+0:=q1;show GB TN ((ρ 1).i+0) ((ρ 2).i+0) ((ρ 3).i+0);intro A;rcases u A with h|h
 .exact .inl h
 exact .inr ⟨aa,aa⟩
def r86:di (aC TN TE) (rl 86):=λ ρ h0 A=>by
 obtain⟨u,q1,-⟩:=dU A;have u:GB TN ((ρ 1).i+0) ((ρ 2).i+0) ((ρ 3).i+0):=u;have q1:Jq TN ((ρ 3).i+0) ((ρ 2).i+0):=q1;show GB TN ((ρ 1).i+1) ((ρ 2).i+0) ((ρ 3).i+1);intro y;have:=aa0 q1 y;rcases u y with h|h
 .exact .inr ⟨aa,aa⟩
 omega
def r87:di (aC TN TE) (rl 87):=λ ρ h0 y=>by obtain⟨u,q1,q2,-⟩:=dU y;have u:GB TN ((ρ 1).i+0) ((ρ 3).i+0) ((ρ 4).i+0):=u;have q2:(ρ 0).i<=(ρ 2).i+(-1):=q2;show((ρ 1).i+0)<=((ρ 2).i+0);have:=z0 h0;rcases u q1 with h|h<;>omega
def r88:di (aC TN TE) (rl 88):=λ ρ h0 A=>by obtain⟨u,q1,q2,y,-⟩:=dU A;have u:NS TN ((ρ 1).i+0):=u;have q1:yj TN TE (ρ 3).l (ρ 4).l:=q1;have q2:((ρ 3).l.length:U)=(ρ 5).i+0:=q2;have y:(ρ 5).i<=(ρ 2).i+1:=y;show((ρ 1).i+0)<=((ρ 2).i+0);have h:=u.2.1;rw[<-q1.1]at h;omega
def r89:di (aC TN TE) (rl 89):=λ ρ h0 u=>by show Nf (ρ 1).l ((ρ 0).i+0) ((ρ 2).i+0) ((ρ 3).i+0);intro j e h;have:=z0 h0;omega
def r90:di (aC TN TE) (rl 90):=λ ρ h0 M=>by
 obtain⟨u,q1,q2,K,J,F,D,A,-⟩:=dU M;have u:Nf (ρ 1).l ((ρ 2).i+0) ((ρ 3).i+0) ((ρ 4).i+0):=u;have q2:(ρ 0).i<=(ρ 5).i+0:=q2;have K:(ρ 5).i<=(ρ 3).i+(-1):=K;have J:(ρ 0).i<=(ρ 6).i+0:=J;have F:(ρ 6).i<=(ρ 4).i+(-1):=F;have D:(ρ 0).i<=(ρ 7).i+0:=D;have A:(ρ 7).i<=(ρ 4).i+(-1):=A;show Nf (ρ 1).l ((ρ 2).i+1) ((ρ 3).i+0) ((ρ 4).i+0);obtain⟨k,h,h2⟩:=q1;have P:=z0 h0;intro j e S y;by_cases N:j=k;.subst N;rw[h2]at y;cases y;exact⟨_,_,_,Q,aa,aa,aa,aa,aa,aa⟩
 exact u j e aa y
def r91:di (aC TN TE) (rl 91):=λ ρ h0 A=>by obtain⟨u,q1,q2,-⟩:=dU A;have u:Nf (ρ 1).l ((ρ 5).i+0) ((ρ 3).i+0) ((ρ 4).i+0):=u;have q1:(ρ 2).i<=(ρ 5).i+0:=q1;have q2:((ρ 1).l.length:U)=(ρ 2).i+0:=q2;refine⟨by show((ρ 1).l.length:U)=(ρ 2).i+0;omega,λ j e y=>?_⟩;have F:=wj y;obtain⟨t,a,b,rfl,h⟩:=u j e aa y;have D:=z0 h0;refine aos ?_ ?_ ?_ ?_ ?_ ?_<;>(try simp only[cM])<;>omega
def r92:di (aC TN TE) (rl 92):=λ ρ h0 u=>by show BV (ρ 1).l ((ρ 0).i+0) ((ρ 2).i+0);intro j e h;have:=z0 h0;omega
def r93:di (aC TN TE) (rl 93):=λ ρ h0 D=>by
 obtain⟨u,q1,q2,A,-⟩:=dU D;have u:BV (ρ 1).l ((ρ 2).i+0) ((ρ 3).i+0):=u;have q2:(ρ 0).i<=(ρ 4).i+0:=q2;have A:(ρ 4).i<=(ρ 3).i+(-1):=A;show BV (ρ 1).l ((ρ 2).i+1) ((ρ 3).i+0);obtain⟨k,h,h2⟩:=q1;have J:=z0 h0;intro j e K y;by_cases F:j=k;.subst F;rw[h2]at y;cases y;exact⟨_,Q,aa,aa⟩
 exact u j e aa y
def r94:di (aC TN TE) (rl 94):=λ ρ h0 A=>by obtain⟨u,q1,q2,-⟩:=dU A;have u:BV (ρ 1).l ((ρ 4).i+0) ((ρ 3).i+0):=u;have q1:(ρ 2).i<=(ρ 4).i+0:=q1;have q2:((ρ 1).l.length:U)=(ρ 2).i+0:=q2;refine⟨by show((ρ 1).l.length:U)=(ρ 2).i+0;omega,λ j e y=>?_⟩;have F:=wj y;obtain⟨v,rfl,h⟩:=u j e aa y;have D:=z0 h0;refine adr ?_ ?_<;>(try simp only[cM])<;>omega
def r95:di (aC TN TE) (rl 95):=λ ρ h0 y=>by obtain⟨u,q1,q2,-⟩:=dU y;have u:(ρ 1).i<=(ρ 0).i+0:=u;have q1:(ρ 0).i<=(ρ 2).i+0:=q1;have q2:(ρ 0).i<=(ρ 3).i+0:=q2;show uS ((ρ 1).i+0) ((ρ 2).i+0) ((ρ 3).i+0);have:=z0 h0;unfold uS;omega
def r96:di (aC TN TE) (rl 96):=λ ρ h0 y=>by obtain⟨u,-⟩:=dU y;have u:uS ((ρ 1).i+0) ((ρ 2).i+0) ((ρ 3).i+0):=u;show uS ((ρ 1).i+1) ((ρ 2).i+0) ((ρ 3).i+1);unfold uS at*;omega
def r97:di (aC TN TE) (rl 97):=λ ρ h0 y=>by obtain⟨u,q1,-⟩:=dU y;have u:uS ((ρ 1).i+0) ((ρ 2).i+0) ((ρ 4).i+0):=u;have q1:(ρ 4).i<=(ρ 3).i+0:=q1;show uS ((ρ 1).i+0) ((ρ 2).i+0) ((ρ 3).i+0);unfold uS at*;omega
def r98:di (aC TN TE) (rl 98):=λ ρ h0 y=>by obtain⟨u,q1,-⟩:=dU y;have u:uS ((ρ 1).i+0) ((ρ 2).i+0) ((ρ 3).i+0):=u;have q1:(ρ 3).i<=(ρ 0).i+8:=q1;show uS ((ρ 1).i+0) ((ρ 2).i+1) ((ρ 0).i+0);have:=z0 h0;unfold uS at*;omega
def r99:di (aC TN TE) (rl 99):=λ ρ h0 D=>by obtain⟨A,q1,q2,y,u,-⟩:=dU D;have A:uS ((ρ 3).i+0) ((ρ 4).i+0) ((ρ 5).i+0):=A;have q1:(ρ 4).i<=(ρ 0).i+8:=q1;have q2:(ρ 5).i<=(ρ 0).i+8:=q2;have y:(ρ 1).i<=(ρ 3).i+1:=y;have u:(ρ 0).i<=(ρ 2).i+(-100):=u;show((ρ 1).i+0)<=((ρ 2).i+0);have:=z0 h0;unfold uS at*;omega
def aCQ:di (aC TN TE) (rl 100):=λ ρ h0 y=>by obtain⟨u,-⟩:=dU y;have u:(ρ 1).i<=(ρ 2).i+(-1):=u;show PF ((ρ 1).i+0) ((ρ 2).i+0) ((ρ 3).i+0) ((ρ 4).i+0);exact .inl aa
def ax9:di (aC TN TE) (rl 101):=λ ρ h0 y=>by obtain⟨u,-⟩:=dU y;have u:(ρ 3).i<=(ρ 4).i+(-1):=u;show PF ((ρ 1).i+0) ((ρ 2).i+0) ((ρ 3).i+0) ((ρ 4).i+0);exact .inr aa
def axT:di (aC TN TE) (rl 102):=λ ρ h0 y=>by obtain⟨u,q1,q2,-⟩:=dU y;have u:PF ((ρ 1).i+0) ((ρ 2).i+0) ((ρ 3).i+0) ((ρ 4).i+0):=u;have q1:(ρ 2).i<=(ρ 1).i+0:=q1;have q2:(ρ 4).i<=(ρ 3).i+0:=q2;rcases u with h|h<;>omega
def axo:di (aC TN TE) (rl 103):=λ ρ h0 A=>by obtain⟨u,q1,q2,y,-⟩:=dU A;have u:pTR (ρ 3).l (ρ 1).l:=u;have q2:((ρ 3).l.length:U)=(ρ 2).i+0:=q2;have y:((ρ 1).l.length:U)=(ρ 2).i+0:=y;refine⟨by show((ρ 1).l.length:U)=(ρ 2).i+0;omega,λ j e D=>?_⟩;have:=u aa q1 j e D;subst this;exact ads
def aFe:di (aC TN TE) (rl 104):=λ ρ h0 A=>by obtain⟨u,q1,q2,y,-⟩:=dU A;have u:pTR (ρ 2).l (ρ 1).l:=u;have q2:((ρ 2).l.length:U)=(ρ 3).i+0:=q2;have y:((ρ 1).l.length:U)=(ρ 3).i+0:=y;exact u aa q1
def axC:di (aC TN TE) (rl 105):=λ ρ h0 y=>by obtain⟨u,-⟩:=dU y;have u:(ρ 2).i<=(ρ 1).i+0:=u;show Gf ((ρ 1).i+0) ((ρ 2).i+0) ((ρ 3).i+0) ((ρ 4).i+0) ((ρ 5).i+0) ((ρ 6).i+0);exact .inl aa
def atp:di (aC TN TE) (rl 106):=λ ρ h0 y=>by obtain⟨u,-⟩:=dU y;have u:(ρ 4).i<=(ρ 3).i+(-1):=u;show Gf ((ρ 1).i+0) ((ρ 2).i+0) ((ρ 3).i+0) ((ρ 4).i+0) ((ρ 5).i+0) ((ρ 6).i+0);exact .inr (.inl aa)
def aJW:di (aC TN TE) (rl 107):=λ ρ h0 y=>by obtain⟨u,-⟩:=dU y;have u:(ρ 6).i<=(ρ 5).i+(-1):=u;show Gf ((ρ 1).i+0) ((ρ 2).i+0) ((ρ 3).i+0) ((ρ 4).i+0) ((ρ 5).i+0) ((ρ 6).i+0);exact .inr (.inr aa)
def aIG:di (aC TN TE) (rl 108):=λ ρ h0 y=>by
 obtain⟨u,q1,-⟩:=dU y;have u:Gf ((ρ 7).i+0) ((ρ 2).i+0) ((ρ 3).i+0) ((ρ 4).i+0) ((ρ 5).i+0) ((ρ 6).i+0):=u;have q1:(ρ 7).i<=(ρ 1).i+0:=q1;show Gf ((ρ 1).i+0) ((ρ 2).i+0) ((ρ 3).i+0) ((ρ 4).i+0) ((ρ 5).i+0) ((ρ 6).i+0);rcases u with h|h|h
 .exact .inl aa
 .exact .inr (.inl h)
 exact .inr (.inr h)
def asR:di (aC TN TE) (rl 109):=λ ρ h0 y=>by
 obtain⟨u,-⟩:=dU y;rcases u with h|h
 .exact .inr (.inl aa)
 exact .inr (.inr aa)
def asv:di (aC TN TE) (rl 110):=λ ρ h0 y=>by obtain⟨u,q1,q2,-⟩:=dU y;have u:Gf ((ρ 2).i+0) ((ρ 1).i+0) ((ρ 3).i+0) ((ρ 4).i+0) ((ρ 5).i+0) ((ρ 6).i+0):=u;have q1:(ρ 3).i<=(ρ 4).i+0:=q1;have q2:(ρ 5).i<=(ρ 6).i+0:=q2;show((ρ 1).i+0)<=((ρ 2).i+0);rcases u with h|h|h<;>omega
def aHF:di (aC TN TE) (rl 111):=λ ρ h0 y=>by obtain⟨u,q1,-⟩:=dU y;have q1:(ρ 3).i<=(ρ 0).i+(-1):=q1;obtain⟨j,h,h2⟩:=u;exact⟨j,_,h2,by have:=z0 h0;omega⟩
def aIH:di (aC TN TE) (rl 112):=λ ρ h0 y=>by obtain⟨u,q1,-⟩:=dU y;obtain⟨j,v,h,h2⟩:=u;have:=q1 j _ h;injection this with e;injection e with e;injection e with _ e;omega
def aur:di (aC TN TE) (rl 113):=λ ρ h0 A=>by obtain⟨u,q1,q2,y,-⟩:=dU A;have u:yj TN TE (ρ 2).l (ρ 3).l:=u;have q1:((ρ 3).l.length:U)=(ρ 4).i+0:=q1;have q2:(ρ 0).i<=(ρ 1).i+0:=q2;have y:(ρ 1).i<=(ρ 4).i+(-1):=y;show Zr TE ((ρ 1).i+0);have:=z0 h0;exact⟨aa,by rw[<-u.2];omega⟩
def avE:di (aC TN TE) (rl 114):=λ ρ h0 A=>by obtain⟨u,q1,q2,y,-⟩:=dU A;have u:Zr TE ((ρ 1).i+0):=u;have q1:yj TN TE (ρ 3).l (ρ 4).l:=q1;have q2:((ρ 4).l.length:U)=(ρ 5).i+0:=q2;have y:(ρ 5).i<=(ρ 2).i+1:=y;show((ρ 1).i+0)<=((ρ 2).i+0);have h:=u.2;rw[<-q1.2]at h;omega
def arn:di (aC TN TE) (rl 115):=λ ρ h0 K=>by
 obtain⟨y,q1,q2,F,N,J,D,A,-⟩:=dU K;have y:nh (ρ 4).l (ρ 1).l:=y;have q1:BV (ρ 4).l ((ρ 2).i+0) ((ρ 5).i+0):=q1;have q2:(ρ 5).i<=(ρ 3).i+0:=q2;have F:((ρ 4).l.length:U)=(ρ 2).i+0:=F;have D:(ρ 0).i<=(ρ 6).i+0:=D;have A:(ρ 6).i<=(ρ 3).i+(-1):=A;show BV (ρ 1).l ((ρ 2).i+1) ((ρ 3).i+0);obtain⟨k,h,h2⟩:=J;have P:=z0 h0;intro j e S u;by_cases M:j<(ρ 4).l.length;.have e1:=eg M;have e2:=y j _ e1;rw[u]at e2;cases e2;obtain⟨v,e3,e4⟩:=q1 j _ aa e1;exact⟨v,e3,aa,aa⟩
 have:=wj u;obtain rfl:j=k:=aa;rw[h2]at u;cases u;exact⟨_,Q,aa,aa⟩
def awM:di (aC TN TE) (rl 116):=λ ρ h0 y=>by obtain⟨u,q1,-⟩:=dU y;have u:BV (ρ 1).l ((ρ 2).i+0) ((ρ 4).i+0):=u;have q1:(ρ 4).i<=(ρ 3).i+0:=q1;show BV (ρ 1).l ((ρ 2).i+0) ((ρ 3).i+0);intro j e A D;obtain⟨v,e1,e2⟩:=u j e A D;exact⟨v,e1,aa,aa⟩
def aGq:di (aC TN TE) (rl 117):=λ ρ h0 y=>by obtain⟨u,q1,-⟩:=dU y;have u:(ρ 1).i<=(ρ 2).i+0:=u;have q1:(ρ 2).i<=(ρ 1).i+0:=q1;show Jq TN ((ρ 1).i+0) ((ρ 2).i+0);rw[(aa:(ρ 1).i+0=(ρ 2).i+0)];exact .refl _
def aAu:di (aC TN TE) (rl 118):=λ ρ h0 y=>by obtain⟨u,q1,q2,-⟩:=dU y;have u:yj TN TE (ρ 3).l (ρ 4).l:=u;show Jq TN ((ρ 1).i+0) ((ρ 2).i+0);obtain⟨j,h,h2⟩:=q1;rw[u.1]at h2;rw[(aa:(ρ 1).i+0=(j:U))];exact .step h2 Q q2
def awZ:di (aC TN TE) (rl 119):=λ ρ h0 F=>by obtain⟨A,q1,q2,y,-⟩:=dU F;have q2:yj TN TE (ρ 6).l (ρ 7).l:=q2;show J7 TN TE ((ρ 1).i+0) ((ρ 2).i+0) ((ρ 3).i+0);obtain⟨j,h,h2⟩:=y;rw[q2.2]at h2;intro q e f t K u J D;obtain rfl:q=j:=aa;rw[h2]at u;cases u;cases J;cases D;exact⟨A,q1⟩
def auX:di (aC TN TE) (rl 120):=λ ρ h0 u=>by show Jf TN ((ρ 1).i+0) ((ρ 0).i+0);intro j e h;have:=z0 h0;omega
def aBQ:di (aC TN TE) (rl 121):=λ ρ h0 D=>by
 obtain⟨u,q1,q2,A,-⟩:=dU D;have u:Jf TN ((ρ 1).i+0) ((ρ 2).i+0):=u;have q1:yj TN TE (ρ 3).l (ρ 4).l:=q1;have A:((ρ 6).i+0)≠((ρ 1).i+0):=A;show Jf TN ((ρ 1).i+0) ((ρ 2).i+1);obtain⟨k,h,h2⟩:=q2;rw[q1.1]at h2;intro j e J y;by_cases F:j=k;.subst F;rw[h2]at y;cases y;intro e;injection e with e;injection e with e;injection e with _ e;omega
 exact u j e aa y
def aHm:di (aC TN TE) (rl 122):=λ ρ h0 F=>by obtain⟨u,q1,q2,D,A,y,-⟩:=dU F;have u:Jf TN ((ρ 1).i+0) ((ρ 2).i+0):=u;have q1:yj TN TE (ρ 3).l (ρ 4).l:=q1;have q2:((ρ 3).l.length:U)=(ρ 5).i+0:=q2;have D:(ρ 5).i<=(ρ 2).i+0:=D;have A:(ρ 0).i<=(ρ 1).i+0:=A;have y:(ρ 1).i<=(ρ 5).i+(-1):=y;show NS TN ((ρ 1).i+0);have:=z0 h0;have J:=q2;rw[q1.1]at J;exact⟨aa,aa,λ j e M K=>u j e aa K⟩
def aAL:di (aC TN TE) (rl 123):=λ ρ h0 u=>by show CG TN TE (ρ 1).l (ρ 0).l;rw[WC h0];intro i e h;simp at h
def aD5:di (aC TN TE) (rl 124):=λ ρ h0 M=>by
 obtain⟨D,q1,q2,F,A,K,J,y,-⟩:=dU M;have D:nh (ρ 3).l (ρ 2).l:=D;have q2:((ρ 3).l.length:U)=(ρ 4).i+0:=q2;have F:((ρ 2).l.length:U)=(ρ 4).i+1:=F;have A:∃j:R,(ρ 4).i+0=j/\(ρ 2).l[j]? =O [.sc (.int .i64 ((ρ 5).i+0)),.sc (.int .i64 ((ρ 6).i+0)),.sc (.int .i64 ((ρ 7).i+0))]:=A;have y:J7 TN TE ((ρ 5).i+0) ((ρ 8).i+0) ((ρ 9).i+0):=y;show CG TN TE (ρ 1).l (ρ 2).l;obtain⟨j,h,h2⟩:=A;obtain⟨k,Y,S⟩:=K;obtain⟨m,h5,P⟩:=J;intro n e u;by_cases N:n<(ρ 3).l.length;.have e1:=eg N;have e2:=D n _ e1;rw[u]at e2;cases e2;exact q1 n _ e1
 have:=wj u;obtain rfl:n=j:=aa;rw[h2]at u;cases u;exact⟨_,k,m,_,_,by rw[show _=(k:U)from Y,show _=(m:U)from h5],S,P,y⟩
def aJZ:di (aC TN TE) (rl 125):=λ ρ h0 y=>by obtain⟨u,q1,-⟩:=dU y;exact anf u q1
def aFJ:di (aC TN TE) (rl 126):=λ ρ h0 y=>by obtain⟨u,q1,q2,-⟩:=dU y;exact anf (aol u q1) q2
def aHG:di (aC TN TE) (rl 127):=λ ρ h0 u=>by show Lb (ρ 1).l ((ρ 0).i+0);intro j e h;have:=z0 h0;omega
def aB0:di (aC TN TE) (rl 128):=λ ρ h0 D=>by
 obtain⟨u,q1,q2,A,-⟩:=dU D;have u:Lb (ρ 1).l ((ρ 2).i+0):=u;have q2:(ρ 0).i<=(ρ 3).i+0:=q2;have A:(ρ 3).i<=(ρ 0).i+99:=A;show Lb (ρ 1).l ((ρ 2).i+1);obtain⟨k,h,h2⟩:=q1;have J:=z0 h0;intro j e K y;by_cases F:j=k;.subst F;rw[h2]at y;cases y;exact⟨_,Q,aa,aa⟩
 exact u j e aa y
def aG1:di (aC TN TE) (rl 129):=λ ρ h0 A=>by obtain⟨u,q1,q2,-⟩:=dU A;have u:Lb (ρ 1).l ((ρ 3).i+0):=u;have q1:(ρ 2).i<=(ρ 3).i+0:=q1;have q2:((ρ 1).l.length:U)=(ρ 2).i+0:=q2;refine⟨by show((ρ 1).l.length:U)=(ρ 2).i+0;omega,λ j e y=>?_⟩;have F:=wj y;obtain⟨v,rfl,h⟩:=u j e aa y;have D:=z0 h0;refine adr ?_ ?_<;>(try simp only[cM])<;>omega
def aws:∀k r,r∈(aC TN TE).rl k->di (aC TN TE) r:=by
 intro k r h;have u:xA (λ p:R×pU=>xA (di (aC TN TE)) p.2) RK:=⟨⟨r94,aG1,sp⟩,⟨axo,sp⟩,⟨r91,sp⟩,⟨Nr,Yo,rM,rM,rM,rM,rM,rM,rM,rM,rM,rM,rM,rM,rM,rM,rM,rM,rM,rM,rM,rM,rM,rM,rM,rM,rM,rM,rM,rM,rM,rM,rM,rM,rM,rM,rM,rM,rM,rM,rM,rM,r83,sp⟩,⟨rM,r23,r24,rM,sp⟩,⟨r0,r1,r2,r3,r4,r5,sp⟩,⟨r13,rM,r66,r67,r75,sp⟩,⟨r69,r72,r73,r74,r79,r80,axT,aIH,sp⟩,⟨r87,r88,r99,asv,avE,sp⟩,⟨G6,sp⟩,⟨r6,r7,r8,r9,sp⟩,⟨aHm,sp⟩,⟨aAL,aD5,aJZ,aFJ,sp⟩,⟨rM,rM,rM,rM,rM,rM,rM,sp⟩,⟨r76,sp⟩,⟨r68,awZ,sp⟩,⟨r70,r71,sp⟩,⟨aGq,aAu,sp⟩,⟨r77,r78,sp⟩,⟨r81,r82,sp⟩,⟨r84,r85,r86,sp⟩,⟨r89,r90,sp⟩,⟨r92,r93,arn,awM,sp⟩,⟨r95,r96,r97,r98,sp⟩,⟨aFe,sp⟩,⟨aCQ,ax9,sp⟩,⟨axC,atp,aJW,aIG,asR,sp⟩,⟨aHF,sp⟩,⟨aur,sp⟩,⟨auX,aBQ,sp⟩,⟨aHG,aB0,sp⟩,sp⟩;have h:r∈(match lk RK k with|some l=>l|none=>[]):=h;split at h
 .rename_i l D
  have hm:(k,l)∈RK:=by
   have y:∀{L:B (R×pU)},lk L k=O l->(k,l)∈L:=by
    intro L;induction L with
    |nil=>intro h;cases h
    |cons p L A=>
     obtain⟨i,w⟩:=p;intro h;unfold lk at h;split at h;.rename_i e;cases h;subst e;exact dJ
     exact cV _ (A h)
   exact y D
  exact(u.mem _ hm).mem r h
 cases h
def aA4:FX (aC TN TE):=by intro id a b z h1 h2 h;have:id=100\/id=101\/id=102\/id=103:=aa;rcases this with rfl|rfl|rfl|rfl<;>exact h
def asB:Yi (aC TN TE)where
 eq:=λ a b h=>h
 ne:=λ a b h=>h
 neI:=λ a b h=>h
 nes:=λ x y h=>h
 Xi:=λ x y h=>h
 ane:=λ x y h=>h
 ff:=λ l h=>by cases l<;>exact h
 le:=λ a b h=>h
def iB:kh (aC TN TE):=⟨axH,aws,aA4,asB⟩
end
def Sp(l:Nw)(f j:R):gw Inv:=match lk l f with|O r=>lk r j|X=>X
def ayU(u f j:R):gw Inv:=match lk ahV u with
 |O l=>(match Sp l f j with|O I=>O I|X=>Sp VJ f j)
 |X=>Sp VJ f j
def Rl:bG:=[7,9,11,12,13,14,15,16,17,18,19,20,21,22,23,24,25,26,27,28,29,30,31,32,33,34,35,36,37,38,40,41,42,43,44,45,46,47,48,49,50,51,52,53,54,55,56,57,58,59,60,61,62,63,64,65,66,67,68,69,70,71,72,73,74,75,76,77,78,79,80,81,82,83,84,85,86,89,90,91,92,93,94,95,96,97,98,99,100,101,102,103,104,105,106,107,108,109,110,111,112,113,114,115,116,117,119,120,121,122,123,124,125,126,127,128,129,130,131,132,133,134,135,136,137,138,139,140,141,142,143,145,146,147,148,150,151,152,153,154,156,157,158,159,160,161,162,163,164,165,166,167,169,170,172,173,174,175,176,177,178,179,180,181,182,183,184,185,186,187,188,189,190,191,192,193,194,195,196,198,199,200,201,202,203,204,205,206,207,208,209,210,211,213,214,215,216,218,219,220,221,222,223,224,225,227,228,229,230,231,232,233,236,238,239,240,242,243,244,245,246,247,248,249,250,252,253,254,255,257,259,260,261,262,264,265,266,268,269,270,271,272,273,275,276,277,278,279,280,281,282,283,284,285,286,287,288,289,290,292,293,295,296,297,298,300,301,302,303,304,305,306,307,308,309,310,312,313,314,315,316,318,319,320,321,322,323,324,325,326,327,335,336,337,339,341,342,343,344,345,347,348,349,350,351,352,353,354,367,368,369,370,371,373,374,375,376,382,383,384,385,386,387,391,393]
def okL:bG:=[39,87,88,118,144,149,155,168,197,234,235,237,241,251,258,263,267,291,299,317,338,340,392]++Rl
def auv:Nw:=[(214,[(0,⟨2,[.t 6],[(7,.int .i64 1 0),(8,.int .i64 2 0)],[],[],[[.le 0 1 0,.le 1 2 0,.le 2 3 0,.le 2 0 1000]],((2,0),(1,0))⟩)])]
def arE(f g:R):gw Sm:=match smL.find? (λ p=>gr p.1 f&&gr p.2.1 g)with|O p=>O p.2.2|X=>X
def NB:yg->R->R->Bool
 |[],_,_=>W
 |p::l,t,n=>(gr p.1 t&&gr p.2 n)||NB l t n
section
variable(TN TE:aP)
def fnM(f:R):gw lU:=match uz Rl f with|V=>lz af (pol f) f|W=>X
def Cx(i u:R):fS:=⟨fnM,λ f g=>Jo i f g lf,aC TN TE,ayU u,uz okL,λ t=>gr t 9,X,arE,NB V7⟩
def Cu(i u:R):fS:={Cx TN TE i u with inv:=λ f j=>match gr f 199 with|V=>X|W=>(Cx TN TE i u).inv f j}
def Cv(i u:R):fS:={Cx TN TE i u with inv:=λ f j=>match gr f u with|V=>Sp auv f j|W=>(Cx TN TE i u).inv f j}
def cxu(u:R)(i y:R):fS:=match u with|0=>Cx TN TE i y|1=>Cu TN TE i y|_=>Cv TN TE i y
def kp(u:R)(i f:R)(c:Ct):Bool:=match lz af (pol f) f with|O F=>keeps (cxu TN TE u i f) 200 f F c|X=>W
end
noncomputable section
def md:R->R|16=>2|24=>1|25=>1|26=>1|_=>0
def CJ:bG:=[0,1,13,15,27,42,50,52,54,55,65,68,71,84,86,87,96,102,104,110,113,119]
def alZ(j:R):B vy:=((lf.drop (6*j)).take 6).filter λ p=> !uz CJ p.1
def kq(j:R)(u y:aP):Bool:=(alZ j).all λ p=>kp u y (md p.1) p.1 p.2.2.1 p.2.2.2
def kT(_ _:aP):Bool:=V
def aIa{n:R}{p:vy}(h:lf[n]? =O p)(g:uz CJ p.1=W):p∈alZ (n/6):=by refine He.2 ⟨iD (i:=n%6) ?_,by simp[g]⟩;rw[List.getElem?_take_of_lt (Nat.mod_lt _ cB),Eu,Nat.div_add_mod];exact h
end
end
end Go.Abs
