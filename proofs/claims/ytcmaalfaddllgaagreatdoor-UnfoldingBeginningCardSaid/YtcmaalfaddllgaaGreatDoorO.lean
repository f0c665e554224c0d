/- The law on the abstract machine. -/
import Derived.Test.YtcmaalfaddllgaaGreatDoorB
import Derived.Test.YtcmaalfaddllgaaGreatDoorK
import Derived.Test.YtcmaalfaddllgaaGreatDoorM
import Derived.Test.YtcmaalfaddllgaaGreatDoorN
set_option linter.all false
set_option maxRecDepth 100000
namespace Go.Abs
noncomputable section
open Go
variable{H' K K':ah}{I:Im}{N i k m n ng o off sz u v:Nat}{P:Program}{R:List RU}{S:Nat->Prop}{V:List Oc}{a b fh hi j lo p th:Int}{args cs:List aa}{d s:aa}{dE:List (Int×Int×Int)}{dN gN pE pN:List Int}{e:List ae}{fl fm:Option Nat}{g:Nat->Option Row}{gE:List Ed}{α:Type}{l:List α}{r:aa×ah}{t:TypeId}{te:aS}{zE zT:List (Int×Int)}
section
open Go.Proofs
theorem aqo(h:dX bQ 0 [a,b] j e):∃v,e=[eI v]/\a<=v/\v<=b:=by
 obtain⟨_,env,y,J,h3,q⟩:=(yP AX (nm:=0) (d:=⟨5,2,[.int .i64 4 0],[.le 1 4 0,.le 4 2 0]⟩) rfl).1 h;have G:aQ env 1=⟨a,false,[],[]⟩:=dc (λ l=>aQ l 1) y;have F:aQ env 2=⟨b,false,[],[]⟩:=dc (λ l=>aQ l 2) y;have A:(aQ env 1).i<=(aQ env 4).i+0:=q (.le 1 4 0) (by simp);have D:(aQ env 4).i<=(aQ env 2).i+0:=q (.le 4 2 0) (by simp);rw[G]at A;rw[F]at D;refine⟨(aQ env 4).i+0,h3,?_,?_⟩;.show a<=_;exact A
 grind
theorem Ws{a b:Int}:∀{l:aS},(∀(i:Nat) e,l[i]? =some e->∃v,e=[eI v]/\a<=v/\v<=b)->∃z:List Int,l=z.map (λ n=>[eI n])/\∀v∈z,a<=v/\v<=b
 |[],_=>⟨[],rfl,λ v h=>by cases h⟩
 |x::l,h=>by
  obtain⟨v,rfl,D,A⟩:=h 0 x rfl;obtain⟨z,rfl,h3⟩:=Ws (l:=l) (a:=a) (b:=b) λ i e q=>h (i+1) e q
  exact⟨v::z,rfl,λ w y=>by grind⟩
def SS{tb:List Int}{l:aS}(h:∀(i:Nat) e,l[i]? =some e->dX bQ 0 [a,b] i e):∃z:List Int,l=z.map (λ n=>[eI n])/\∀v∈z,a<=v/\v<=b:=Ws λ i e q=>aqo (h i e q)
theorem ahU{z:List Int}(h:∀v∈z,a<=v/\v<=b)(i:Nat)(e:List ae)(q:(z.map (λ n=>[eI n]))[i]? =some e):dX bQ 0 [a,b] i e:=by grind[aeW]
variable{gl:aM}
theorem asO:iZ (vω af pol gl bset bV) bQ 68 DU none:=by
 intro ρ h0 Y F _;have G:dL bQ ρ (.sl 1 2 0 0 [(0,(-1)),(0,1000)]):=F _ (by simp[DU]);have A:(ρ 2).i<=(ρ 0).i+1000:=F (.le 2 0 1000) (by simp[DU]);obtain⟨J,h⟩:=G;have h:∀(i:Nat) e,(ρ 1).l[i]? =some e->dX bQ 0 [(ρ 0).i+ -1,(ρ 0).i+1000] i e:=h;rw[h0]at h A;obtain⟨z,L,_⟩:=SS (tb:=[]) h;have A:(ρ 2).i<=0+1000:=A;have y:z.length<=1000:=by grind
 refine⟨_,dp.2 rfl,λ x=>if x=3 then⟨0,false,[],(ρ 1).l⟩else if x<3 then ρ x else SV.z,λ x q=>?_,λ x q=>?_,λ S=>?_,λ f D=>?_⟩;.have q:x<3:=q;grind
 .have q:4<=x:=q;grind
 .show vω af pol gl bset bV 68 [.sl (ρ 1).l none] S=some (.sl (ρ 1).l (some 1),S,false);rw[L];exact wU QA.1 (QA.2 z y) rfl
 have D:f=.sl 3 2 0 0 [(0,(-1)),(0,1000)]:=by simpa[DU]using D
 subst D;refine⟨J,λ i e M=>?_⟩;show dX bQ 0 [_,_] i e;have:=h i e M;show dX bQ 0 [(ρ 0).i+ -1,(ρ 0).i+1000] i e;rw[h0];exact this
theorem anx:iZ (vω af pol gl bset bV) bQ 237 DX none:=by
 intro ρ h0 Z D _;have G:dL bQ ρ (.sl 1 2 0 0 [(0,(-1)),(0,1000)]):=D _ (by simp[DX]);have A:(ρ 2).i<=(ρ 0).i+1000:=D (.le 2 0 1000) (by simp[DX]);obtain⟨Y,y⟩:=G;have y:∀(i:Nat) e,(ρ 1).l[i]? =some e->dX bQ 0 [(ρ 0).i+ -1,(ρ 0).i+1000] i e:=y;rw[h0]at y A;obtain⟨z,J,_⟩:=SS (tb:=[]) y;have A:(ρ 2).i<=0+1000:=A;have q:z.length<=1000:=by grind
 have hc:(Lib.compact (mH z)).length<=z.length:=by grind[RL,EV]
 have M:bV 237 [.sl (ρ 1).l none]=some (eI ((Lib.compact (mH z)).length:Int)):=by simp only[bV];rw[aj (by decide),aj (by decide),aj (by decide),aj (by decide),aj (by decide),ao trivial];have L:∃l:List Int,l.length<=1000/\(ρ 1).l=l.map (λ n=>[eI n]):=⟨z,q,J⟩;grind[map_inj]
 refine⟨_,dp.2 rfl,λ x=>if x=3 then⟨((Lib.compact (mH z)).length:Int),false,[],[]⟩else if x<3 then ρ x else SV.z,λ x h=>?_,λ x h=>?_,λ S=>?_,λ f F=>?_⟩;.have h:x<3:=h;grind
 .have h:4<=x:=h;grind
 .show vω af pol gl bset bV 237 [.sl (ρ 1).l none] S=some (.sc (.int .i64 (((Lib.compact (mH z)).length:Int)+0)),S,false);rw[iY];exact wU rfl M rfl
 simp only[DX,ck,lB,l7]at F;rcases F with rfl|rfl
 .show(ρ 0).i<=((Lib.compact (mH z)).length:Int)+0;rw[h0];show(0:Int)<=_;omega
 show((Lib.compact (mH z)).length:Int)<=(ρ 0).i+1000;grind
def Ge(e:List ae):Prop:=∃s lo hi l,e=[.sc (.str s),eI lo,eI hi,.sl l none]/\s∈gX/\ -3<=lo/\lo<=0/\0<=hi/\hi<=20/\l.length<=2/\∀x∈l,∃t∈gX,x=[ae.sc (.str t)]
def Uu(j:Int)(e:List ae):Prop:=∃s p b l,e=[.sc (.str s),eI p,eB b,.sl l none]/\s∈gX/\ -1<=p/\p<=j- 1/\l.length<=1/\∀x∈l,Ge x
theorem ajw(h:dX bQ 2 [] j e):∃t∈gX,e=[ae.sc (.str t)]:=by obtain⟨_,env,A,y,h3,q⟩:=(yP AX (nm:=2) (d:=⟨3,0,[.ss 2],[.str 2 gX]⟩) rfl).1 h;exact⟨(aQ env 2).s,q (.str 2 gX) (by simp),h3⟩
def ao1{t:List UInt8}(h:t∈gX):dX bQ 2 [] j [.sc (.str t)]:=by refine vB (nm:=2) (d:=⟨3,0,[.ss 2],[.str 2 gX]⟩) rfl rfl (env:=[SV.z,⟨j,false,[],[]⟩,⟨0,false,t,[]⟩]) rfl (be _) rfl ?_ rfl;intro f q;simp only[ck,lB,l7]at q;subst q;exact h
abbrev Xj:vQ:=⟨7,0,[.ss 2,.int .i64 3 0,.int .i64 4 0,.sl 5 none],[.str 2 gX,.le 0 3 3,.le 3 0 0,.le 0 4 0,.le 4 0 20,.sl 5 6 0 2 [],.le 0 6 0,.le 6 0 2]⟩
theorem avk(h:dX bQ 3 [] j e):Ge e:=by
 obtain⟨_,env,A,Z,h3,q⟩:=(yP AX (nm:=3) (d:=Xj) rfl).1 h;have M:aQ env 0=SV.z:=dc (λ l=>aQ l 0) A;have L:(aQ env 0).i<=(aQ env 3).i+3:=q (.le 0 3 3) (by simp);have J:(aQ env 3).i<=(aQ env 0).i+0:=q (.le 3 0 0) (by simp);have G:(aQ env 0).i<=(aQ env 4).i+0:=q (.le 0 4 0) (by simp);have F:(aQ env 4).i<=(aQ env 0).i+20:=q (.le 4 0 20) (by simp);have f5:((aQ env 5).l.length:Int)=(aQ env 6).i+0/\∀(i:Nat) e,(aQ env 5).l[i]? =some e->dX bQ 2 [] i e:=q (.sl 5 6 0 2 []) (by simp);have D:(aQ env 6).i<=(aQ env 0).i+2:=q (.le 6 0 2) (by simp);have y:(aQ env 0).i=0:=by rw[M];rfl
 rw[y]at L J G F D;refine⟨(aQ env 2).s,(aQ env 3).i+0,(aQ env 4).i+0,(aQ env 5).l,h3,q (.str 2 gX) (by simp),by omega,by omega,by omega,by omega,by omega,λ x Y=>?_⟩;grind[List.mem_iff_getElem?,ajw]
theorem Xg(h:Ge e):dX bQ 3 [] j e:=by
 obtain⟨s,lo,hi,l,rfl,F,M,h3,L,J,G,D⟩:=h;refine vB (nm:=3) (d:=Xj) rfl rfl (env:=[SV.z,⟨j,false,[],[]⟩,⟨0,false,s,[]⟩,⟨lo,false,[],[]⟩,⟨hi,false,[],[]⟩,⟨0,false,[],l⟩,⟨l.length,false,[],[]⟩]) rfl (be _) ?_ ?_ rfl;.show _=[ae.sc (.str s),.sc (.int .i64 (lo+0)),.sc (.int .i64 (hi+0)),.sl l none];rw[iY,iY]
 intro f q;simp only[ck,lB,l7]at q;rcases q with rfl|rfl|rfl|rfl|rfl|rfl|rfl|rfl
 .exact F
 .show(0:Int)<=lo+3;omega
 .show lo<=(0:Int)+0;omega
 .show(0:Int)<=hi+0;omega
 .show hi<=(0:Int)+20;omega
 .refine⟨by show(l.length:Int)=l.length+0;omega,λ i e A=>?_⟩;obtain⟨t,y,rfl⟩:=D e (jm A);exact ao1 y
 .show(0:Int)<=(l.length:Int)+0;omega
 show(l.length:Int)<=(0:Int)+2;omega
abbrev Zm:vQ:=⟨7,0,[.ss 2,.int .i64 3 0,.bs 4,.sl 5 none],[.str 2 gX,.le 0 3 1,.le 3 1 (-1),.sl 5 6 0 3 [],.le 0 6 0,.le 6 0 1]⟩
theorem al3(h:dX bQ 4 [] j e):Uu j e:=by
 obtain⟨_,env,y,Z,h3,q⟩:=(yP AX (nm:=4) (d:=Zm) rfl).1 h;have M:aQ env 0=SV.z:=dc (λ l=>aQ l 0) y;have L:aQ env 1=⟨j,false,[],[]⟩:=dc (λ l=>aQ l 1) y;have J:(aQ env 0).i<=(aQ env 3).i+1:=q (.le 0 3 1) (by simp);have G:(aQ env 3).i<=(aQ env 1).i+ -1:=q (.le 3 1 (-1)) (by simp);have f5:((aQ env 5).l.length:Int)=(aQ env 6).i+0/\∀(i:Nat) e,(aQ env 5).l[i]? =some e->dX bQ 3 [] i e:=q (.sl 5 6 0 3 []) (by simp);have F:(aQ env 6).i<=(aQ env 0).i+1:=q (.le 6 0 1) (by simp);have A:(aQ env 0).i=0:=by rw[M];rfl
 have D:(aQ env 1).i=j:=by rw[L]
 rw[A]at J F;rw[D]at G;refine⟨(aQ env 2).s,(aQ env 3).i+0,(aQ env 4).b,(aQ env 5).l,h3,q (.str 2 gX) (by simp),by omega,by omega,by omega,λ x Y=>?_⟩;grind[List.mem_iff_getElem?,avk]
def ayI(h:Uu j e):dX bQ 4 [] j e:=by
 obtain⟨s,p,b,l,rfl,D,G,h3,F,A⟩:=h;refine vB (nm:=4) (d:=Zm) rfl rfl (env:=[SV.z,⟨j,false,[],[]⟩,⟨0,false,s,[]⟩,⟨p,false,[],[]⟩,⟨0,b,[],[]⟩,⟨0,false,[],l⟩,⟨l.length,false,[],[]⟩]) rfl (be _) ?_ ?_ rfl;.show _=[ae.sc (.str s),.sc (.int .i64 (p+0)),.sc (.bool b),.sl l none];rw[iY]
 intro f q;simp only[ck,lB,l7]at q;rcases q with rfl|rfl|rfl|rfl|rfl|rfl
 .exact D
 .show(0:Int)<=p+1;omega
 .show p<=j+ -1;omega
 .refine⟨by show(l.length:Int)=l.length+0;omega,λ i e y=>?_⟩;exact Xg (A e (jm y))
 .show(0:Int)<=(l.length:Int)+0;omega
 show(l.length:Int)<=(0:Int)+1;omega
def wv(tn:aS):Prop:=tn.length<=6/\∀(i:Nat) e,tn[i]? =some e->Uu i e
theorem wv.at{tn:aS}(h:wv tn):ta tn:=by
 refine⟨by have:=h.1;omega,λ i hi=>?_⟩;obtain⟨s,p,b,l,e,F,A,h3,D,y⟩:=h.2 i _ (cW hi);refine⟨_,p,_,l,by rw[cW hi,e],A,by omega,by omega,?_⟩;unfold fR;refine ij.2 λ x q=>?_
 obtain⟨s,lo,hi,l,rfl,_⟩:=y x q;rfl
theorem wv.tn{tn:aS}(h:wv tn):Cv tn:=by refine⟨by have:=h.1;omega,λ i hi=>?_⟩;obtain⟨s,p,b,l,e,D,A,h3,y,q⟩:=h.2 i _ (cW hi);grind
def aib{tn:aS}(q:Cv tn):∀{f:Nat} {a x:Int},a<tn.length->x∈jf tn f a->0<=x/\x<=a
 |0,a,x,_,h=>by cases h
 |f+1,a,x,F,h=>by
  unfold jf at h;split at h;.cases h
  rename_i h0;have hi:a.toNat<tn.length:=by omega
  obtain⟨L,p,J,G,e,D,A⟩:=q.2 _ hi;have y:jc tn a.toNat=p:=by simp only[jc,e]
  rcases ck.1 h with rfl|h
  .omega
  rw[y]at h;have:=aib q (by omega) h;omega
theorem WM{tn:aS}(q:wv tn):∀{f:Nat} {a:Int} {x:List ae},a<tn.length->x∈eA tn f a->Ge x
 |0,a,x,_,h=>by cases h
 |f+1,a,x,F,h=>by
  unfold eA at h;split at h;.cases h
  rename_i h0;have hi:a.toNat<tn.length:=by omega
  obtain⟨s,p,b,l,e,L,J,h3,G,D⟩:=q.2 a.toNat _ (cW hi);have e':tn[a.toNat]? =some [ae.sc (.str s),eI p,eB b,.sl l none]:=by rw[cW hi,e]
  have y:jc tn a.toNat=p:=by simp only[jc,e']
  have A:oG tn a.toNat=l:=by simp only[oG,e']
  rcases jA.1 h with h|h
  .rw[y]at h;exact WM q (by omega) h
  rw[A]at h;exact D x h
theorem aht{tn:aS}(h:wv tn):∀{f:Nat} {a:Int},a<tn.length->(eA tn f a).length<=f
 |0,a,_=>be _
 |f+1,a,A=>by
  unfold eA;split;.exact iB _
  rename_i h0;have hi:a.toNat<tn.length:=by omega
  obtain⟨s,p,b,l,e,J,G,h3,F,D⟩:=h.2 a.toNat _ (cW hi);have e':tn[a.toNat]? =some [ae.sc (.str s),eI p,eB b,.sl l none]:=by rw[cW hi,e]
  have q:jc tn a.toNat=p:=by simp only[jc,e']
  have y:oG tn a.toNat=l:=by simp only[oG,e']
  have:=aht h (f:=f) (a:=p) (by omega);grind
def aex{ρ:bm}(h0:ρ 0=SV.z){x:Nat}(q:dL bQ ρ (.sl x n 0 4 []))(h:dL bQ ρ (.le n 0 6)):wv (ρ x).l/\((ρ x).l.length:Int)=(ρ n).i:=by
 obtain⟨F,y⟩:=q;have h:(ρ n).i<=(ρ 0).i+6:=h;have A:(ρ 0).i=0:=by rw[h0];rfl
 rw[A]at h;exact⟨⟨by omega,λ i e D=>al3 (y i e D)⟩,by omega⟩
theorem apn:iZ (vω af pol gl bset bV) bQ 151 Am none:=by
 intro ρ h0 hn q _;have M:dL bQ ρ (.sl 1 4 0 4 []):=q _ (by simp[Am]);have L:dL bQ ρ (.le 4 0 6):=q _ (by simp[Am]);have J:(ρ 0).i<=(ρ 3).i+0:=q (.le 0 3 0) (by simp[Am]);have p4:(ρ 3).i<=(ρ 4).i+ -1:=q (.le 3 4 (-1)) (by simp[Am]);have Y:(ρ 0).i=0:=by rw[h0];rfl
 rw[Y]at J;obtain⟨D,hl⟩:=aex h0 M L;have ab:=D.1;generalize y:(ρ 1).l=tn at*;obtain⟨a,ha⟩:∃a:Nat,(ρ 3).i+0=a:=⟨(ρ 3).i.toNat,by omega⟩;have hb:bV 151 [.agg [.sl tn none,.sl (ρ 2).l none],eI a]=some (aD (jf tn (a+1) a).reverse):=by simp only[bV];rw[aj (by decide),aj (by decide),aj (by decide),aj (by decide),ao trivial,ao ⟨D.tn,by omega,by omega⟩];rfl
 have F:=Pn (tn:=tn) (f:=a+1) (a:=(a:Int));have A:∀v∈(jf tn (a+1) a).reverse,(ρ 0).i+0<=v/\v<=(ρ 4).i+ -1:=λ v Z=>by have:=aib D.tn (by omega) (List.mem_reverse.1 Z);omega
 refine⟨_,dp.2 rfl,λ x=>if x=6 then⟨0,false,[],(jf tn (a+1) a).reverse.map λ n=>[eI n]⟩else if x=7 then⟨((jf tn (a+1) a).length:Int),false,[],[]⟩else if x<6 then ρ x else SV.z,λ x h=>?_,λ x h=>?_,λ S=>?_,λ f G=>?_⟩;.have h:x<6:=h;grind
 .have h:8<=x:=h;grind
 .show vω af pol gl bset bV 151 [.agg [.sl (ρ 1).l none,.sl (ρ 2).l none],.sc (.int .i64 ((ρ 3).i+0))] S=some (aD (jf tn (a+1) a).reverse,S,false);rw[y,ha];exact wU rfl hb rfl
 simp only[ck,lB,l7]at G;rcases G with rfl|rfl|rfl
 .refine⟨?_,λ i e he=>?_⟩;.grind
  exact ahU A i e he
 .show(ρ 0).i<=((jf tn (a+1) a).length:Int)+0;omega
 show((jf tn (a+1) a).length:Int)<=(ρ 0).i+6;omega
theorem amI:iZ (vω af pol gl bset bV) bQ 136 vw none:=by
 intro ρ h0 hn h _;have p1:dL bQ ρ (.sl 1 4 0 4 []):=h _ (by simp[vw]);have Z:dL bQ ρ (.le 4 0 6):=h _ (by simp[vw]);have Y:(ρ 0).i<=(ρ 3).i+0:=h (.le 0 3 0) (by simp[vw]);have p4:(ρ 3).i<=(ρ 4).i+ -1:=h (.le 3 4 (-1)) (by simp[vw]);have M:(ρ 3).i<=(ρ 0).i+5:=h (.le 3 0 5) (by simp[vw]);have L:dL bQ ρ (.el 1 3 0 [.ss 6,.int .i64 7 0,.bs 8,.sl 10 none]):=h _ (by simp[vw]);have J:dL bQ ρ (.sl 10 9 0 3 []):=h _ (by simp[vw]);have hz:(ρ 0).i=0:=by rw[h0];rfl
 rw[hz]at Y M;obtain⟨D,hl⟩:=aex h0 p1 Z;have ab:=D.1;obtain⟨a,ha,A⟩:=L;have A:(ρ 1).l[a]? =some [.sc (.str (ρ 6).s),.sc (.int .i64 ((ρ 7).i+0)),.sc (.bool (ρ 8).b),.sl (ρ 10).l none]:=A;obtain⟨p8,_⟩:=J;generalize y:(ρ 1).l=tn at*;have hb:bV 136 [.agg [.sl tn none,.sl (ρ 2).l none],eI a]=some (.sl (eA tn (a+1) a) (some 4)):=by simp only[bV];rw[aj (by decide),aj (by decide),aj (by decide),ao trivial,ao ⟨D.at,by omega,by omega,by omega⟩];rfl
 have F:=aht D (f:=a+1) (a:=(a:Int)) (by omega);have ac:(ρ 10).l.length<=(eA tn (a+1) a).length:=by grind[eA,oG]
 refine⟨_,dp.2 rfl,λ x=>if x=11 then⟨0,false,[],eA tn (a+1) a⟩else if x=12 then⟨((eA tn (a+1) a).length:Int),false,[],[]⟩else if x<11 then ρ x else SV.z,λ x q=>?_,λ x q=>?_,λ S=>?_,λ f G=>?_⟩;.have q:x<11:=q;grind
 .have q:13<=x:=q;grind
 .show vω af pol gl bset bV 136 [.agg [.sl (ρ 1).l none,.sl (ρ 2).l none],.sc (.int .i64 ((ρ 3).i+0))] S=some (.sl (eA tn (a+1) a) (some 4),S,false);rw[y,ha];exact wU rfl hb rfl
 simp only[ck,lB,l7]at G;rcases G with rfl|rfl|rfl
 .refine⟨?_,λ i e A=>?_⟩;.grind
  grind[Xg,WM]
 .show(ρ 9).i<=((eA tn (a+1) a).length:Int)+0;omega
 show((eA tn (a+1) a).length:Int)<=(ρ 0).i+6;omega
def apg:wq.all (λ p=> !(Nat.beq p.1 0&&p.2.2.2.dec.isSome))=true:=by kernel_rfl
def Wq{f:Nat}(J:bset f=false)(D:gX.all (λ s=>kp false 0 f (BY s))=true):iZ (vω af pol gl bset bV) bQ f ⟨[3],[.ss 1],[.str 1 gX],none,[⟨1,.bs 2,[]⟩]⟩ none:=by
 refine az2 λ s q=>?_
 have h:=ij.1 D s q;unfold kp at h;split at h
 .rename_i F A;refine ZD (C:=Cx 0 f) (m:=200) (F:=F) AX (aaR 0 f) (XN 0 f) (aay 0 f) (λ f' g c G=>?_) A J h;obtain⟨p,y,_,_,h3⟩:=UY G;have:=ij.1 apg p y;rcases h3 with h3|⟨h3,L⟩
  .omega
  rename_i M;subst M;rw[h3,L]at this;cases this
 cases h
def apu:Sl gl bV where
 h0:=Wq rfl ayW
 h3:=amI
 h52:=Wq rfl ax1
 h60:=apn
 h68:=asO
 xM:=anx
def cts:∀p∈wq,iZ (vω af pol gl bset bV) bQ p.2.2.1 p.2.2.2 none:=amc apu
end
section
variable{S':Nat->Prop}{a:α}{b:List aa}{v:aa}
def Kp(S:Nat->Prop)(g h:Nat->Option Row):Prop:=∀u r,g u=some r->¬S r.aC->h u=some r
structure Sh (α:Type)where
 sz:Nat
 rel:(Nat->Option Row)->(Nat->Prop)->α->List aa->Prop
 len:∀{g S a cs},rel g S a cs->cs.length=sz
 one:∀{g S a cs},rel g S a cs->cs.all aa.eh=true
 kp:∀{g g' S a cs},Kp S g g'->rel g S a cs->rel g' S a cs
 kV:∀{g S S' a cs},(∀u r,g u=some r->S' r.aC->S r.aC)->rel g S a cs->rel g S' a cs
def uG:Sh Int where
 sz:=1
 rel:=λ _ _ n cs=>cs=[.int .i64 n]
 len:=λ h=>by rw[h];rfl
 one:=λ h=>by rw[h];rfl
 kp:=λ _ h=>h
 kV:=λ _ h=>h
def afe:Sh Bool where
 sz:=1
 rel:=λ _ _ n cs=>cs=[.bool n]
 len:=λ h=>by rw[h];rfl
 one:=λ h=>by rw[h];rfl
 kp:=λ _ h=>h
 kV:=λ _ h=>h
def yJ:Sh (List UInt8)where
 sz:=1
 rel:=λ _ _ n cs=>cs=[.str n]
 len:=λ h=>by rw[h];rfl
 one:=λ h=>by rw[h];rfl
 kp:=λ _ h=>h
 kV:=λ _ h=>h
def rD{α D:Type}(s:Sh α)(t:Sh D):Sh (α×D)where
 sz:=s.sz+t.sz
 rel:=λ g S x cs=>∃q h,cs=q++h/\s.rel g S x.1 q/\t.rel g S x.2 h
 len:=λ ⟨q,h,e,A,y⟩=>by rw[e,dM,s.len A,t.len y]
 one:=λ ⟨q,h,e,A,y⟩=>by rw[e,List.all_append,s.one A,t.one y];rfl
 kp:=λ k ⟨q,h,e,A,y⟩=>⟨q,h,e,s.kp k A,t.kp k y⟩
 kV:=λ k ⟨q,h,e,A,y⟩=>⟨q,h,e,s.kV k A,t.kV k y⟩
def uI(g:Nat->Option Row)(S:Nat->Prop)(sz n:Nat)(s:aa)(cs:List aa):Prop:=cs.length=n*sz/\((n=0/\(s=.ai\/s=.dq))\/∃v off r,s=.slice v off n none/\g v=some r/\¬S r.aC/\r.sz=sz/\off+n*sz<=r.cells.length/\(r.cells.drop off).take (n*sz)=cs)
def uI.read(h:uI g S sz n s cs):jd g sz n s cs:=by
 obtain⟨q,y|⟨v,off,r,F,D,_,_,A,e5⟩⟩:=h;.exact⟨q,.inl y⟩
 exact⟨q,.inr ⟨v,off,none,r,F,D,A,e5⟩⟩
def uI.kp{y:Nat->Option Row}(k:Kp S g y)(h:uI g S sz n s cs):uI y S sz n s cs:=by
 obtain⟨q,D|⟨v,off,r,L,J,A,F,G,e5⟩⟩:=h;.exact⟨q,.inl D⟩
 exact⟨q,.inr ⟨v,off,r,L,k v r J A,A,F,G,e5⟩⟩
def uI.kV(k:∀u r,g u=some r->S' r.aC->S r.aC)(h:uI g S sz n s cs):uI g S' sz n s cs:=by
 obtain⟨q,A|⟨v,off,r,J,y,G,D,F,e5⟩⟩:=h;.exact⟨q,.inl A⟩
 exact⟨q,.inr ⟨v,off,r,J,y,λ h=>G (k v r y h),D,F,e5⟩⟩
def lT(cs:List aa)(sz i:Nat):List aa:=(cs.drop (i*sz)).take sz
theorem arM{a:List aa}(h:i*sz+sz<=a.length):lT (a++b) sz i=lT a sz i:=by grind[lT]
theorem aAO{a:List aa}(q:a.length=i*sz)(h:b.length=sz):lT (a++b) sz i=b:=by grind[lT]
def ns{α:Type}(s:Sh α):Sh (List α)where
 sz:=1
 rel:=λ g S l cs=>∃v q,cs=[v]/\uI g S s.sz l.length v q/\∀i a,l[i]? =some a->s.rel g S a (lT q s.sz i)
 len:=λ ⟨v,q,e,_,_⟩=>by rw[e];rfl
 one:=λ ⟨v,q,e,⟨_,h⟩,_⟩=>by rw[e];rcases h with⟨_,rfl|rfl⟩|⟨x,off,r,rfl,_⟩<;>rfl
 kp:=λ k ⟨v,q,e,D,A⟩=>⟨v,q,e,D.kp k,λ i a y=>s.kp k (A i a y)⟩
 kV:=λ k ⟨v,q,e,D,A⟩=>⟨v,q,e,D.kV k,λ i a y=>s.kV k (A i a y)⟩
def Fr.kp{H:ah}(h:Fr fm H H')(A:∀f,fm=some f->S f):Kp S H.objs.get H'.objs.get:=λ u r q y=>h.row u r q (λ e=>y (A _ e.symm))
def Sh.keep(s:Sh α){H:ah}(h:Fr fm H H')(y:∀f,fm=some f->S f)(q:s.rel H.objs.get S a cs):s.rel H'.objs.get S a cs:=s.kp (h.kp y) q
def Sh.B7(s:Sh α){H:ah}(h:Fr none H H')(q:s.rel H.objs.get S a cs):s.rel H'.objs.get S a cs:=s.keep h (λ _ e=>by cases e) q
def Sh.sub(s:Sh α)(h:∀f,S' f->S f)(q:s.rel g S a cs):s.rel g S' a cs:=s.kV (λ _ r _ y=>h r.aC y) q
def jr{α:Type}(s:Sh α)(K:ah)(N:Nat)(v:aa)(l:List α)(fl:Option Nat):Prop:=(∀f,fl=some f->N<=f)/\∃cs,cj K s.sz l.length v cs fl/\∀i a,l[i]? =some a->s.rel K.objs.get (λ f=>f<N\/fl=some f) a (lT cs s.sz i)
def cj.axb{H:ah}(h:cj H sz n s cs fm)(D:∀f,fm=some f->¬S f):uI H.objs.get S sz n s cs:=by
 obtain⟨y,⟨rfl,rfl,_⟩|⟨v,r,rfl,o,q,F,A,rfl⟩⟩:=h;.exact⟨y,.inl ⟨rfl,.inl rfl⟩⟩
 exact⟨y,.inr ⟨v,0,r,rfl,o.row,D _ rfl,q,by omega,by simpa using A⟩⟩
def jr.rel{s:Sh α}(h:jr s K N v l fl):(ns s).rel K.objs.get (λ f=>f<N) l [v]:=by obtain⟨D,cs,G,F⟩:=h;exact⟨v,cs,rfl,G.axb (λ f e q=>by have:=D f e;omega),λ i a A=>s.sub (λ f y=>.inl y) (F i a A)⟩
def jr.nil(s:Sh α)(K:ah)(N:Nat):jr s K N .ai [] none:=⟨λ f e=>(by cases e),[],⟨by simp,.inl ⟨rfl,rfl,rfl⟩⟩,λ i a h=>by simp at h⟩
theorem jr.keep{s:Sh α}(h:jr s K N v l fl)(k:Fr fm K K')(q:∀f,fm=some f->f<N):jr s K' N v l fl:=by
 obtain⟨A,cs,F,D⟩:=h;refine⟨A,cs,F.keep k ?_,λ i a y=>s.keep k (λ f e=>.inl (q f e)) (D i a y)⟩;cases fl;.exact .inl rfl
 rename_i f;grind
theorem jr.push{s:Sh α}(g:Good K){bytes:Nat}(h:jr s K N v l fl)(hs:0<s.sz){cells:List aa}(ha:s.rel K.objs.get (λ f=>f<N\/fl=some f) a cells)
 (hb:(l.length+1)*bytes<=eJ) (Y:l.length+1<=eJ) (ad:N<=K.next):
 ∃D K' q,gm K s.sz bytes v 1 cells=some (D,K')/\jr s K' N D (l++[a]) q/\Fr fl K K'/\Good K':=by
 obtain⟨hN,cs,h1,h2⟩:=h;have A:=s.len ha;obtain⟨D,K',q,Z,ho,M,g',L⟩:=Cs (k:=1) (bytes:=bytes) (new:=cells) g hs h1 (by omega) (s.one ha) hb Y;refine⟨D,K',q,Z,⟨λ f e=>?_,cs++cells,by simpa using ho,λ i b y=>?_⟩,M,g'⟩;.grind
 .have F:∀{b:α} {c:List aa},s.rel K.objs.get (λ f=>f<N\/fl=some f) b c->s.rel K'.objs.get (λ f=>f<N\/q=some f) b c:=by
   intro b c hr;rcases L with rfl|⟨f',ac,rfl⟩
   .exact s.keep M (λ f e=>.inr e) hr
   ·
    have G:s.rel K.objs.get (λ f=>(f<N\/fl=some f)\/f'=f) b c:=s.kV (λ u r hu h=>by
     rcases h with h|h
     .exact h
     have:=(g.wf u r hu).2;omega) hr
    exact s.sub (λ f h=>by grind) (s.keep M (λ f e=>.inl (.inr e)) G)
  by_cases hi:i<l.length
  .rw[xp hi]at y;have ab:i*s.sz+s.sz<=cs.length:=by rw[h1.1];have:=mQ s.sz (show i+1<=l.length by omega);grind
   grind[arM]
  have J:i=l.length:=by grind
  subst J;simp at y;subst y;rw[aAO h1.1 A];exact F ha
end
section
variable{e:TypeId}{v:aa}
variable{P:Program}
theorem PX{x:Nat}(h:bq g x off n=some cs){c:Nat}(q:c+m<=n):bq g x (off+c) m=some ((cs.drop c).take m):=by
 unfold bq at h⊢;split at h;.cases h
 grind[gT,Nat.ble_eq_true_of_le,List.drop_take,List.drop_drop]
def Sh.elem{s:Sh α}(h:(ns s).rel g S l [v])(hi:i<l.length){j:TypeInfo}(F:P.underlying t=some (.slice e))(G:P.info? e=some j)(q:j.size=s.sz):
 ∃x off cs,(∀k,iM P t v (.int k (.ofNat i))=some (.ptr x off))/\s.rel g S l[i] cs/\bq g x off s.sz=some cs/\∀c m,c+m<=s.sz->bq g x (off+c) m=some ((cs.drop c).take m):=by
 obtain⟨Z,Y,D,M,L⟩:=h;cases D;obtain⟨x,off,A,y,_⟩:=M.read.index hi F G q;exact⟨x,off,lT Y s.sz i,A,L i l[i] (by simp),y,λ c m J=>PX y J⟩
def Sh.dD{s:Sh α}(h:(ns s).rel g S l [v])(y:P.underlying t=some (.slice e)):Abs.dD P t v=some (.int .i64 (.ofNat l.length)):=by obtain⟨D,G,q,A,F⟩:=h;cases q;exact A.read.dD y
def Yo(s:Sh α)(g:Nat->Option Row)(S:Nat->Prop):(ns s).rel g S [] [.ai]:=⟨.ai,[],rfl,⟨by simp,.inl ⟨rfl,.inl rfl⟩⟩,λ i a h=>by simp at h⟩
theorem afI{s:Sh α}(h:(ns s).rel g S l cs):∃v,cs=[v]/\v.cells=[v]/\v.eh=true:=by obtain⟨v,A,rfl,q,y⟩:=h;obtain⟨_,⟨_,rfl|rfl⟩|⟨x,off,r,rfl,_⟩⟩:=q<;>exact⟨_,rfl,rfl,rfl⟩
end
section
open Go.Proofs
variable{a:aa}{s:List UInt8}
def axf{k:IntKind}{a:Int}(q:b≠0)(h0:DN k<=a.tdiv b)(y:a.tdiv b<=Bi k):cV P .quo t (.int k a) (.int k b)=some (.int k (a.tdiv b)):=by have e:Go.binOp .quo t (.int k a) (.int k b)=(if k≠k then(stuck "BinOp: operands of different kinds":Sem Value)else Op.intDiv .quo k a b):=rfl;show qo (Go.binOp .quo t (.int k a) (.int k b))=_;rw[e,aj (λ h=>h rfl)];unfold Op.intDiv;rw[aj q];show some (aa.int k (k.wrap (a.tdiv b)))=_;rw[Nh h0 y]
def adp{a:Int}(h:0<=a/\a<=255)(y:0<b):cV P .quo t (.int .u8 a) (.int .u8 b)=some (.int .u8 (a.tdiv b))/\0<=a.tdiv b/\a.tdiv b<=255:=by have h0:0<=a.tdiv b:=Int.tdiv_nonneg h.1 (by omega);have q:a.tdiv b<=255:=Int.le_trans (by rw[aBc h.1];exact Int.ediv_le_self _ h.1) h.2;exact⟨axf (by omega) h0 q,h0,q⟩
def Cw{k:IntKind}{a:Int}(q:0<=a)(h:0<b):cV P .rem t (.int k a) (.int k b)=some (.int k (a.tmod b))/\0<=a.tmod b/\a.tmod b<b:=⟨Sz (by omega),Int.tmod_nonneg _ q,Int.tmod_lt_of_pos _ h⟩
def KB{a:Int}(h:0<=a/\a<=255):rh af 5 3 (some (.int .u8 a))=some (.int .i64 a):=by
 have:rh af 5 3 (some (.int .u8 a))=some (.int .i64 (IntKind.wrap .i64 a)):=by
  simp only[rh,Tryz.underlying5,Tryz.underlying3]
  try rfl
 rw[this,Ap (by unfold iO;omega)]
def akE{a:Int}(h:iO (a-b)):cV P .sub t (.int .i64 a) (.int .i64 b)=some (.int .i64 (a-b)):=O8 h
def aog{a:Int}(h:iO (a+b)):cV P .add t (.int .i64 a) (.int .i64 b)=some (.int .i64 (a+b)):=EW h
def OP(h:i<s.length):jY af g 9 (.str s) (some (.int .i64 (Int.ofNat i))) (some (.int .i64 (Int.ofNat (i+1))))=some (.str [s[i]]):=by
 have e:(s.drop i).take (i+1-i)=[s[i]]:=by rw[rL h,show i+1-i=1 by omega,dC,dh]
 simp only[jY,Tryz.underlying9,mb,b9 (jl i),b9 (show i+1<=s.length from h),e]
def Rz:Tryz.prog.info? 22=some Tryz.t22:=by kernel_rfl
def Ro:Tryz.prog.info? 88=some Tryz.t88:=by kernel_rfl
def ag9:Tryz.prog.info? 5=some Tryz.t5:=by kernel_rfl
def aaL:Tryz.prog.info? 45=some Tryz.t45:=by kernel_rfl
def ayd:Tryz.prog.info? 93=some Tryz.t93:=by kernel_rfl
def O4:Tryz.prog.info? 29=some Tryz.t29:=by kernel_rfl
def adA:Tryz.prog.info? 31=some Tryz.t31:=by kernel_rfl
def SM(h:i<2):iM af 88 (.ptr v off) (.int .i64 (Int.ofNat i))=some (.ptr v (off+i)):=by have q:Tryz.t5.size=1:=rfl;simp only[iM,Tryz.underlying88,ag9,q,b9 (show i+1<=2 from h),xF]
def agO:iM af 88 (.ptr v off) (.int .i64 0)=some (.ptr v (off+0)):=SM (i:=0) (by decide)
def NP:iM af 88 (.ptr v off) (.int .i64 1)=some (.ptr v (off+1)):=SM (i:=1) (by decide)
def GO{c:aa}(h:bq g v off 1=some [c]):de af g 5 (.ptr v off)=some c:=by simp only[de,Tryz.underlying5,ag9,h];rfl
def ay9(h:bq g v off 2=some cs):de af g 88 (.ptr v off)=some (.agg cs):=by have q:Tryz.t88.size=2:=rfl;simp only[de,Tryz.underlying88,Ro,q,h];rfl
def adq{H:ah}{b:aa}:dJ af H 88 (.ptr v off) (.agg [a,b])=gM H v off [a,b]:=by simp only[dJ,Ro];rfl
def aAY:ig af 88=some (.agg [.int .u8 0,.int .u8 0]):=by kernel_rfl
def aqm:lP af 88 (some [])=some (.agg [.int .u8 0,.int .u8 0]):=by kernel_rfl
def WH:ig af 47=some (.agg [.str [],.int .i64 0,.bool false,.ai]):=by kernel_rfl
def aoy:ig af 93=some (.agg [.str [],.int .i64 0,.int .i64 0,.int .i64 0,.int .i64 0,.int .i64 0,.int .i64 0]):=by kernel_rfl
def CK:ig af 31=some (.agg [.ai,.ai]):=by kernel_rfl
def aqO{b:Bool}:lP af 47 (some [(0,.str s),(1,.int .i64 p),(2,.bool b)])=some (.agg [.str s,.int .i64 p,.bool b,.ai]):=by kernel_rfl
def avS:lP af 91 (some [(0,.str s),(1,.int .i64 (-3)),(2,.int .i64 p)])=some (.agg [.str s,.int .i64 (-3),.int .i64 p,.ai]):=by kernel_rfl
def att:lP af 91 (some [(0,.str s),(2,.int .i64 1),(3,.slice v 0 2 none)])=some (.agg [.str s,.int .i64 0,.int .i64 1,.slice v 0 2 none]):=by kernel_rfl
def alX{q:Int}:lP af 93 (some [(0,.str s),(1,.int .i64 p),(2,.int .i64 q),(4,.int .i64 (-1)),(6,.int .i64 (-1))])=some (.agg [.str s,.int .i64 p,.int .i64 q,.int .i64 0,.int .i64 (-1),.int .i64 0,.int .i64 (-1)]):=by kernel_rfl
def aa0{b c:aa}:nM af 45 1 (some [(0,.agg [a,b,c,d])])=some ([a,b,c,d],4,some 1):=by kernel_rfl
def auo{b c:aa}:nM af 28 1 (some [(0,.agg [a,b,c,d])])=some ([a,b,c,d],4,some 1):=by kernel_rfl
def ay3{b c e f g:aa}:nM af 29 1 (some [(0,.agg [a,b,c,d,e,f,g])])=some ([a,b,c,d,e,f,g],7,some 1):=by kernel_rfl
def anr{t:List UInt8}:nM af 89 2 (some [(0,.str s),(1,.str t)])=some ([.str s,.str t],1,some 2):=by kernel_rfl
theorem axG{H:ah}{b c:aa}:dJ af H 47 (.ptr v off) (.agg [a,b,c,d])=gM H v off [a,b,c,d]:=by simp only[dJ,EY];rfl
def afd{H:ah}:dJ af H 45 (.ptr v off) (.slice u 0 k none)=gM H v off [.slice u 0 k none]:=by simp only[dJ,aaL];rfl
def au3{H:ah}(h:a.eh=true):dJ af H 28 (.ptr v off) a=gM H v off [a]:=by simp only[dJ,Od,MM h];rfl
def ajc{H:ah}(h:a.eh=true):dJ af H 29 (.ptr v off) a=gM H v off [a]:=by simp only[dJ,O4,MM h];rfl
def J3{H:ah}{b:aa}:dJ af H 31 (.ptr v off) (.agg [a,b])=gM H v off [a,b]:=by simp only[dJ,adA];rfl
def anY(h:bq g v off 4=some cs):de af g 47 (.ptr v off)=some (.agg cs):=by have q:Tryz.t47.size=4:=rfl;simp only[de,Tryz.underlying47,EY,q,h];rfl
theorem N7(h:bq g v off 2=some cs):de af g 31 (.ptr v off)=some (.agg cs):=by have q:Tryz.t31.size=2:=rfl;simp only[de,Tryz.underlying31,adA,q,h];rfl
def akr{c:aa}(h:bq g v off 1=some [c]):de af g 29 (.ptr v off)=some c:=by simp only[de,Tryz.underlying29,O4,h];rfl
def adi:gv af 47 (.ptr v o) 3=some (.ptr v (o+3)):=by have h:Nat.beq Tryz.t45.size 0=false:=rfl;simp only[gv,Tryz.underlying47,aaL,h];rfl
def ayx:gv af 47 (.ptr v o) 2=some (.ptr v (o+2)):=by have h:Nat.beq Tryz.t4.size 0=false:=rfl;simp only[gv,Tryz.underlying47,tN,h];rfl
def als:gv af 31 (.ptr v o) 1=some (.ptr v (o+1)):=by have h:Nat.beq Tryz.t29.size 0=false:=rfl;simp only[gv,Tryz.underlying31,O4,h];rfl
def adU{H:ah}{cells:List aa}(h:cells.length=sz):eR (alloc H cells true sz).objs.get sz 1 (.slice H.next 0 1 none)=some cells:=by
 have y:=(ic H cells true sz).row;have A:Nat.ble (0+1*sz) cells.length=true:=b9 (by omega);have q:(cells.drop 0).take (1*sz)=cells:=by rw[cM,Nat.one_mul,mB (by omega)]
 simp only[eR,b9 (be 1),bq,y,A,q]
def ayh:∃z,ig af 47=some z/\z.cells.length=4:=⟨_,WH,rfl⟩
def aj6:∃z,ig af 93=some z/\z.cells.length=7:=⟨_,aoy,rfl⟩
def aqs{H:ah}{s x:aa}{new:List aa}(y:lenOf x=some n)(A:eR H.objs.get 4 n x=some new):jM af H [28,28] [s,x]=gm H 4 Tryz.t47.bytes s n new:=by obtain⟨z,q,h⟩:=ayh;have D:Tryz.t47.size=4:=rfl;simp+decide only[jM,Tryz.underlying28,EY,q,h,D,y,A]
def aqj{H:ah}{s x:aa}{new:List aa}(y:lenOf x=some n)(A:eR H.objs.get 7 n x=some new):jM af H [29,29] [s,x]=gm H 7 Tryz.t93.bytes s n new:=by obtain⟨z,q,h⟩:=aj6;have D:Tryz.t93.size=7:=rfl;simp+decide only[jM,Tryz.underlying29,ayd,q,h,D,y,A]
end
section
open Go.Proofs
variable{n:List UInt8}{r:Row}{s:Sh α}{v:aa}
variable{ng:Nat}{Z7:aW}
abbrev zX:=List UInt8×Int×Int×List (List UInt8)
abbrev vx:=List UInt8×Int×Bool×List zX
abbrev HH:=List UInt8×Int×Int×Int×Int×Int×Int
def xN:Sh zX:=rD yJ (rD uG (rD uG (ns yJ)))
def A0:Sh vx:=rD yJ (rD uG (rD afe (ns xN)))
def Hz:Sh HH:=rD yJ (rD uG (rD uG (rD uG (rD uG (rD uG uG)))))
def TA(a:zX):Prop:=a.1∈gX/\ -3<=a.2.1/\a.2.1<=0/\0<=a.2.2.1/\a.2.2.1<=20/\a.2.2.2.length<=2/\∀t∈a.2.2.2,t∈gX
def SY(i:Nat)(x:vx):Prop:=x.1∈gX/\ -1<=x.2.1/\x.2.1<=(i:Int)- 1/\x.2.2.2.length<=1/\∀a∈x.2.2.2,TA a
def Tq(n:Nat)(e:HH):Prop:=e.1∈gX/\(0<=e.2.1/\e.2.1<n)/\(0<=e.2.2.1/\e.2.2.1<n)/\e.2.2.2=(0,-1,0,-1)
def Fr.E7{y:Option Nat}{H:ah}(g:Good H)(h:Fr y H K)(k:Fr fm K K')(q:kM H fm):Fr y H K':=by
 refine⟨λ u r A ne=>k.row u r (h.row u r A ne) ?_,λ f m D ne=>k.aG f m (h.aG f m D ne) ?_,fX h.next k.next⟩;.intro e;have:=q _ e.symm;have:=(g.wf u r A).2;omega
 intro e;have:=q _ e.symm;have:=(g.mem f m D).1;omega
def jr.lt(g:Good K)(h:jr s K N v l fl):∀f,fl=some f->f<K.next:=by
 obtain⟨_,cs,⟨_,⟨_,_,rfl⟩|⟨u,r,_,o,_,_,_,rfl⟩⟩,_⟩:=h;.intro f e;cases e
 intro f e;cases e;exact(g.wf u r o.row).2
def jr.one(h:jr s K N v l fl):v.eh=true:=by obtain⟨_,cs,h,_⟩:=h;exact h.one
def jh.rd{H:ah}{v:Nat}(o:jh H v r){n:Nat}(h:off+n<=r.cells.length):bq H.objs.get v off n=some ((r.cells.drop off).take n):=by simp only[bq,o.row,b9 h]
abbrev lR(p:Int×Int):List ae:=[.sc (.int .u8 p.1),.sc (.int .u8 p.2)]
def P8(p:Int×Int):Prop:=(0<=p.1/\p.1<=255)/\(0<=p.2/\p.2<=255)
def aeN(M:cu I g){z:List (Int×Int)}{a:aa}(J:RP I (.sl (z.map lR) none) a)(hi:i<z.length):
 ∃v off,(∀k,iM af 22 a (.int k (Int.ofNat i))=some (.ptr v off))/\bq g v off 2=some [.int .u8 z[i].1,.int .u8 z[i].2]:=by
 have L:(z.map lR)[i]? =some (lR z[i]):=by rw[bM,cW hi];rfl
 obtain⟨v,off,Y,D⟩:=RK M J L Tryz.underlying22 Ro rfl;obtain⟨b1,h,r1⟩:=D 0 (.sc (.int .u8 z[i].1)) rfl;obtain⟨b2,q,r2⟩:=D 1 (.sc (.int .u8 z[i].2)) rfl;simp only[RP]at r1 r2;obtain⟨rfl,_⟩:=r1;obtain⟨rfl,_⟩:=r2;refine⟨v,off,Y,?_⟩;unfold bq at h q⊢;cases y:g v;.rw[y]at h;cases h
 .rename_i r;rw[y]at h q;simp only at h q⊢;split at q
  .rename_i A;have A:=gT A;split at h;.rw[b9 (by omega)];simp only;have G:r.cells.drop off=r.cells[off]::r.cells.drop (off+1):=rL (by omega);have F:r.cells.drop (off+1)=r.cells[off+1]::r.cells.drop (off+2):=rL (by omega);rw[nY,G]at h;rw[F]at q;simp only[dC,dh,lz,rG,rO]at h q;rw[G,F,dC,dC,dh,h,q]
   cases h
  cases q
abbrev qA(u:Nat)(a b:aa):Row:=⟨[a,b],u,0,true,false,1⟩
abbrev rw4(u:Nat)(a b c d:aa):Row:=⟨[a,b,c,d],u,0,true,false,1⟩
def sA:List UInt8:=[65,66,67,68,69,70]
def sU:List UInt8:=[117,118,119,120,121,122]
def tM:List UInt8:=[101,102,103,104,105]
def aur:∀i (h:i<6),[sA[i]]∈gX:=by decide
def azy:∀i (h:i<5),[tM[i]]∈gX:=by decide
def ab7:∀i (h:i<6),[sU[i]]∈gX:=by decide
def azU:xN.rel g S (n,lo,hi,[]) [.str n,.int .i64 lo,.int .i64 hi,.ai]:=⟨[.str n],[.int .i64 lo,.int .i64 hi,.ai],rfl,rfl,[.int .i64 lo],[.int .i64 hi,.ai],rfl,rfl,[.int .i64 hi],[.ai],rfl,rfl,Yo yJ g S⟩
def am7{a b:List UInt8}(h:g u=some r)(y:r.cells=[.str a,.str b])(A:r.sz=1)(D:¬S r.aC):(ns yJ).rel g S [a,b] [.slice u 0 2 none]:=by
 refine⟨_,[.str a,.str b],rfl,⟨rfl,.inr ⟨u,0,r,rfl,h,D,A,by rw[y];exact be 2,by rw[y];rfl⟩⟩,λ i x q=>?_⟩
 match i,q with
 |0,q=>cases q;rfl
 |1,q=>cases q;rfl
def api{l:List (List UInt8)}(h:(ns yJ).rel g S l [v]):xN.rel g S (n,lo,hi,l) [.str n,.int .i64 lo,.int .i64 hi,v]:=⟨[.str n],[.int .i64 lo,.int .i64 hi,v],rfl,rfl,[.int .i64 lo],[.int .i64 hi,v],rfl,rfl,[.int .i64 hi],[v],rfl,rfl,h⟩
def Xw{a:α}(h:g u=some r)(y:r.cells=cs)(D:r.sz=s.sz)(G:¬S r.aC)(A:s.rel g S a cs):(ns s).rel g S [a] [.slice u 0 1 none]:=by
 have F:=s.len A;refine⟨_,cs,rfl,⟨by simp[F],.inr ⟨u,0,r,rfl,h,G,D,by rw[y];simp;omega,by rw[y,cM,mB (by simp;omega)]⟩⟩,λ i x q=>?_⟩
 match i,q with
 |0,q=>
  cases q;have:lT cs s.sz 0=cs:=by unfold lT;rw[uh,cM,mB (by omega)]
  rw[this];exact A
def anu{b:Bool}{l:List zX}(h:(ns xN).rel g S l [v]):A0.rel g S (n,p,b,l) [.str n,.int .i64 p,.bool b,v]:=⟨[.str n],[.int .i64 p,.bool b,v],rfl,rfl,[.int .i64 p],[.bool b,v],rfl,rfl,[.bool b],[v],rfl,rfl,h⟩
def amY{c d e f:Int}:Hz.rel g S (n,a,b,c,d,e,f) [.str n,.int .i64 a,.int .i64 b,.int .i64 c,.int .i64 d,.int .i64 e,.int .i64 f]:=⟨[.str n],_,rfl,rfl,[.int .i64 a],_,rfl,rfl,[.int .i64 b],_,rfl,rfl,[.int .i64 c],_,rfl,rfl,[.int .i64 d],_,rfl,rfl,[.int .i64 e],_,rfl,rfl,rfl⟩
def Fr.aeG{H:ah}(h:Fr none H K)(k:Fr fm K K'):Fr fm H K':=⟨λ u r q ne=>k.row u r (h.row u r q (by simp)) ne,λ f m y ne=>k.aG f m (h.aG f m y (by simp)) ne,fX h.next k.next⟩
def Fr.KP{H:ah}(h:Fr fm H K)(k:Fr none K K'):Fr fm H K':=⟨λ u r q ne=>k.row u r (h.row u r q ne) (by simp),λ f m y ne=>k.aG f m (h.aG f m y ne) (by simp),fX h.next k.next⟩
end
section
open Go.Proofs
variable{ng:Nat}{Z7:aW}
theorem auN{H:ah}(g:Good H)(hI:cu I H.objs.get){zN:List (Int×Int)}(pN:∀p∈zN,P8 p)(pE:∀p∈zE,P8 p){sN sE:aa}(hN:RP I (.sl (zN.map lR) none) sN)(hE:RP I (.sl (zE.map lR) none) sE)(lN:zN.length<=1000)(lE:zE.length<=1000):
 ∃r,fI af ng Z7 7 [sN,sE] H r/\Fr none H r.2/\Good r.2/\∃v w q y fl M,r.1=.agg [v,w]/\jr A0 r.2 (H.next+2) v q fl/\(ns Hz).rel r.2.objs.get (λ f=>f<M) y [w]/\(∀f,fl=some f->f<M)/\H.next+2<=M/\1<=q.length/\q.length<=6/\y.length<=5/\(∀i x,q[i]? =some x->SY i x)/\∀e∈y,Tq q.length e:=by
 refine qn Tryz.func7 rfl ?_;show W af ng Z7 124 _ _ _ _;have a0:aw (fH [sN,sE] 0 .nil) 0=sN:=rfl;have a1:aw (fH [sN,sE] 0 .nil) 1=sE:=rfl;have a3:(aa.agg [.ai,.ai]).cells=[.ai,.ai]:=rfl;have f0:=gH g [.ai,.ai] true 1;have g0:=gD g [.ai,.ai] true 1;have f1:=gH g0 [.ai,.ai] true 1;have g1:=gD g0 [.ai,.ai] true 1;have o4:=(ic H [.ai,.ai] true 1).keep f1 (by simp);have o5:=ic (alloc H [.ai,.ai] true 1) [.ai,.ai] true 1;refine aO (bW (H':=alloc H [.ai,.ai] true 1) (λ T=>aw T 4=.ptr H.next 0) ?_ ?_)
 ·(repeat ((first|apply bA (br rfl)|apply bO rfl rfl rfl);simp+decide only[AB,a0,CK,a3];rfl))
  exact bF (by simp+decide only[AB])
 intro T1 t4 k1;have aV:(alloc H [.ai,.ai] true 1).next=H.next+1:=rfl
 generalize bd:alloc (alloc H [.ai,.ai] true 1) [.ai,.ai] true 1=H2 at*;have bP:H2.next=H.next+2:=by rw[<-bd];rfl
 rw[aV]at o5;refine aO (bW (H':=H2) (λ T=>aw T 5=.ptr (H.next+1) 0) ?_ ?_)
 ·(repeat ((first|apply bA (br rfl)|apply bO rfl rfl rfl);simp+decide only[AB,CK,a3,bd,aV];rfl))
  exact bF (by simp+decide only[AB])
 intro T2 t5 k2;have b0:=(k2 0 rfl).trans ((k1 0 rfl).trans a0);have b1:=(k2 1 rfl).trans ((k1 1 rfl).trans a1);have b4:=(k2 4 rfl).trans t4;have bj:Fr none H H2:=f0.trans f1;have bc:∀{fm:Option Nat} {K:ah},Fr fm H2 K->(∀f,fm=some f->H.next<=f)->cu I K.objs.get:=λ fr hf u r e=>by have hu:=hI u r e;refine fr.row u r (bj.row u r hu (by simp)) ?_;intro e2;have:=hf _ e2.symm;have:=(g.wf u r hu).2;omega
 refine aO (aO (bW (H':=H2) (λ T=>aw T 6=.int .i64 (Int.ofNat 0)) ?_ ?_))
 ·(repeat ((first|apply bA (br rfl)|apply bO rfl rfl rfl);simp+decide only[AB,b0];rfl))
  exact bF (by simp+decide only[AB];rfl)
 intro T3 t6 k3;have c0:=(k3 0 rfl).trans b0;have c1:=(k3 1 rfl).trans b1;have c4:=(k3 4 rfl).trans b4;have c5:=(k3 5 rfl).trans t5;refine ku (tj (λ m T K=>∃(i:Nat) (v:aa) (q:List vx) (fl:Option Nat),m+i=6/\q.length=i/\(∀j x,q[j]? =some x->SY j x)/\jr A0 K H2.next v q fl/\jh K (H.next+1) (qA (H.next+1) v .ai)/\Fr (some (H.next+1)) H2 K/\Good K/\aw T 0=sN/\aw T 1=sE/\aw T 4=.ptr H.next 0/\aw T 5=.ptr (H.next+1) 0/\aw T 6=.int .i64 (Int.ofNat i)) ?_ 6 _ _ ⟨0,.ai,[],none,rfl,rfl,λ j x h=>by simp at h,jr.nil _ _ _,o5,Fr.refl _ _,g1,c0,c1,c4,c5,t6⟩)
 rintro m T K ⟨i,v,q,fl,hm,aA,bN,hL,az,L,gk,u0,u1,u4,u5,u6⟩
 have bb:=bc L (λ f e=>by cases e;omega);have J:dD af 22 sN=some (.int .i64 (Int.ofNat zN.length)):=by grind[p9,Tryz.underlying22,List.length_map]
 refine aO (aO (bW (H':=K) (λ T=>aw T 23=.bool (decide (i=0\/(i<zN.length/\i<6)))) ?_ ?_))
 .by_cases h0:i=0
  .have e1:decide (Int.ofNat i=0)=true:=dV (by subst h0;rfl);rw[dV (show i=0\/(i<zN.length/\i<6)from .inl h0)]
   (repeat ((first|apply bA (br rfl)|apply bO rfl rfl rfl);simp+decide only[AB,u0,u6,e1];rfl))
   exact bF (by simp+decide only[AB])
  have e1:decide (Int.ofNat i=0)=false:=cX (λ h=>h0 (Int.ofNat.inj h));by_cases h1:i<zN.length
  .have e2:decide (Int.ofNat i<Int.ofNat zN.length)=true:=dV (NG.2 h1);by_cases h2:i<6
   .have e3:decide (Int.ofNat i<6)=true:=dV (by simp only[mS];omega);rw[dV (show i=0\/(i<zN.length/\i<6)from .inr ⟨h1,h2⟩)]
    (repeat ((first|apply bA (br rfl)|apply bO rfl rfl rfl);simp+decide only[AB,u0,u6,e1,e2,e3,J];rfl))
    exact bF (by simp+decide only[AB])
   have e3:decide (Int.ofNat i<6)=false:=cX (by simp only[mS];omega);rw[cX (show¬(i=0\/(i<zN.length/\i<6)) by omega)]
   (repeat ((first|apply bA (br rfl)|apply bO rfl rfl rfl);simp+decide only[AB,u0,u6,e1,e2,e3,J];rfl))
   exact bF (by simp+decide only[AB])
  have e2:decide (Int.ofNat i<Int.ofNat zN.length)=false:=cX (λ h=>h1 (NG.1 h));rw[cX (show¬(i=0\/(i<zN.length/\i<6)) by omega)]
  (repeat ((first|apply bA (br rfl)|apply bO rfl rfl rfl);simp+decide only[AB,u0,u6,e1,e2,J];rfl))
  exact bF (by simp+decide only[AB])
 intro T4 bt k4;have v0:=(k4 0 rfl).trans u0;have v1:=(k4 1 rfl).trans u1;have v4:=(k4 4 rfl).trans u4;have v5:=(k4 5 rfl).trans u5;have v6:=(k4 6 rfl).trans u6;refine jZ (by rw[mc,bt]) (λ hc=>?_) (λ hc=>?_)
 .have hc:=jk hc;have al:i<6:=by omega
  refine kH (aO (ku ?_));have ga:=gD gk [.int .u8 0,.int .u8 0] true 1;have fa:=gH gk [.int .u8 0,.int .u8 0] true 1;have oa:=ic K [.int .u8 0,.int .u8 0] true 1;have a2:(aa.agg [.int .u8 0,.int .u8 0]).cells=[.int .u8 0,.int .u8 0]:=rfl;generalize a9:alloc K [.int .u8 0,.int .u8 0] true 1=Ka at*;have cc:Ka.next=K.next+1:=by rw[<-a9];rfl
  obtain⟨Kb,w1,ob,fb,nb,gb⟩:=lO ga oa (off:=0) (new:=[.int .u8 0,.int .u8 0]) (by simp) rfl;have s1:dJ af Ka 88 (.ptr K.next 0) (.agg [.int .u8 0,.int .u8 0])=some Kb:=by rw[adq];exact w1
  refine aO (bW (H':=Kb) (λ T=>aw T 7=.ptr K.next 0) ?_ ?_)
  ·(repeat ((first|apply bA (br rfl)|apply bO rfl rfl rfl);simp+decide only[AB,aqm,aAY,a2,a9,s1];rfl))
   exact bF (by simp+decide only[AB])
  intro T5 t7 k5;have w0:=(k5 0 rfl).trans v0;have bl:=(k5 1 rfl).trans v1;have w4:=(k5 4 rfl).trans v4;have w5:=(k5 5 rfl).trans v5;have w6:=(k5 6 rfl).trans v6;have b3:Fr (some (H.next+1)) H2 Kb:=(L.E7 g1 fa (λ f e=>by cases e)).E7 g1 fb (λ f e=>by cases e;exact L.next);refine aO (W.mono (R:=λ e T K3=>e=.normal/\∃D A:Int,P8 (D,A)/\jh K3 K.next (qA K.next (.int .u8 D) (.int .u8 A))/\Fr (some K.next) Kb K3/\Good K3/\aw T 0=sN/\aw T 1=sE/\aw T 4=.ptr H.next 0/\aw T 5=.ptr (H.next+1) 0/\aw T 6=.int .i64 (Int.ofNat i)/\aw T 7=.ptr K.next 0) ?_ ?_)
  .refine aO (bW (H':=Kb) (λ T=>aw T 30=.bool (decide (Int.ofNat i<Int.ofNat zN.length))) ?_ ?_)
   ·(repeat ((first|apply bA (br rfl)|apply bO rfl rfl rfl);simp+decide only[AB,w0,w6,J];rfl))
    exact bF (by simp+decide only[AB])
   intro T6 bs k6;have D:=(k6 0 rfl).trans w0;have A:=(k6 1 rfl).trans bl;have x4:=(k6 4 rfl).trans w4;have x5:=(k6 5 rfl).trans w5;have x6:=(k6 6 rfl).trans w6;have x7:=(k6 7 rfl).trans t7;refine jZ (by rw[mc,bs]) (λ ac=>?_) (λ cg=>?_)
   .have ac:i<zN.length:=NG.1 (jk ac);obtain⟨p,off,q1,q2⟩:=aeN (bc b3 (λ f e=>by cases e;omega)) hN ac;obtain⟨Kc,z1,z2,z3,z4,z5⟩:=lO gb ob (off:=0) (new:=[.int .u8 zN[i].1,.int .u8 zN[i].2]) (by simp[ep]) rfl;have s2:dJ af Kb 88 (.ptr K.next 0) (.agg [.int .u8 zN[i].1,.int .u8 zN[i].2])=some Kc:=by rw[adq];exact z1
    refine bW (H':=Kc) (λ T=>True) ?_ ?_
    ·(repeat ((first|apply bA (br rfl)|apply bO rfl rfl rfl);simp+decide only[AB,D,x6,x7,q1,ay9 q2,s2];rfl))
     exact bF trivial
    intro T7 _ k7;exact⟨rfl,zN[i].1,zN[i].2,pN _ (xC ac),z2,z3,z5,(k7 0 rfl).trans D,(k7 1 rfl).trans A,(k7 4 rfl).trans x4,(k7 5 rfl).trans x5,(k7 6 rfl).trans x6,(k7 7 rfl).trans x7⟩
   exact kH ⟨rfl,0,0,by unfold P8;omega,ob,Fr.refl _ _,gb,D,A,x4,x5,x6,x7⟩
  rintro e T8 K3 ⟨rfl,D,A,F,o7,bi,g3,y0,y1,y4,y5,y6,y7⟩
  show W af ng Z7 124 _ T8 K3 _;have cd:K.next+1<=K3.next:=by have:=bi.next;have:=fb.next;omega
  have G:∀{t:TypeId},cV af .add t (.int .i64 (Int.ofNat i)) (.int .i64 1)=some (.int .i64 (Int.ofNat (i+1))):=wu (by omega);have ax:bq K3.objs.get K.next (0+0) 1=some [.int .u8 D]:=o7.rd (by simp);have aL:bq K3.objs.get K.next (0+1) 1=some [.int .u8 A]:=o7.rd (by simp);obtain⟨r1,r2,r3⟩:=Cw (P:=af) (t:=3) (k:=.i64) (a:=D) (b:=Int.ofNat (i+1)) F.1.1 (by simp only[mS];omega);obtain⟨q1,q2,q3⟩:=adp (P:=af) (t:=5) (a:=D) (b:=16) F.1 (by decide);obtain⟨q4,_,_⟩:=Cw (P:=af) (t:=5) (k:=.u8) (a:=D.tdiv 16) (b:=4) q2 (by decide);have hk:iO (D.tmod (Int.ofNat (i+1))- 1):=by have aM:D.tmod (Int.ofNat (i+1))<((i+1:Nat):Int):=r3;have aN:=r2;generalize D.tmod (Int.ofNat (i+1))=tt at aN aM⊢;unfold iO;omega
  have sb:∀{t:TypeId},cV af .sub t (.int .i64 (D.tmod (Int.ofNat (i+1)))) (.int .i64 1)=some (.int .i64 (D.tmod (Int.ofNat (i+1))- 1)):=akE hk;have bJ:i<sA.length:=al;have QD:jY af K3.objs.get 9 (.str [65,66,67,68,69,70]) (some (.int .i64 (Int.ofNat i))) (some (.int .i64 (Int.ofNat (i+1))))=some (.str [sA[i]]):=OP (s:=sA) bJ;have bH:(aa.agg [.str [],.int .i64 0,.bool false,.ai]).cells=[.str [],.int .i64 0,.bool false,.ai]:=rfl;have gd:=gD g3 [.str [],.int .i64 0,.bool false,.ai] true 1;have fd:=gH g3 [.str [],.int .i64 0,.bool false,.ai] true 1;have od:=ic K3 [.str [],.int .i64 0,.bool false,.ai] true 1;generalize a8:alloc K3 [.str [],.int .i64 0,.bool false,.ai] true 1=Kd at*;have cb:Kd.next=K3.next+1:=by rw[<-a8];rfl
  obtain⟨p,hp⟩:∃p:Int,p=D.tmod (Int.ofNat (i+1))- 1:=⟨_,rfl⟩;obtain⟨ab,ci⟩:∃ab:Bool,ab=decide ((D.tdiv 16).tmod 4=3):=⟨_,rfl⟩;obtain⟨Ke,z1,oe,fe,ne,ge⟩:=lO gd od (off:=0) (new:=[.str [sA[i]],.int .i64 p,.bool ab,.ai]) (by simp) rfl;have s3:dJ af Kd 47 (.ptr K3.next 0) (.agg [.str [sA[i]],.int .i64 (D.tmod (Int.ofNat (i+1))- 1),.bool (decide ((D.tdiv 16).tmod 4=3)),.ai])=some Ke:=by grind[axG]
  refine aO (Pp (H':=Ke) (λ T=>aw T 8=.ptr K3.next 0) g3.wf (by kernel_rfl) ?_ ?_)
  ·(repeat ((first|apply TZ rfl (br rfl)|apply Ri rfl (br rfl));simp+decide only[AB,y6,y7,G,QD,agO,GO ax,KB F.1,r1,sb,q1,q4,aqO,WH,bH,a8,s3];rfl))
   exact QW (by simp+decide only[AB])
  intro T9 t8 k9;have e0:=(k9 0 rfl).trans y0;have e1:=(k9 1 rfl).trans y1;have e4:=(k9 4 rfl).trans y4;have e5:=(k9 5 rfl).trans y5;have e6:=(k9 6 rfl).trans y6;have e7:=(k9 7 rfl).trans y7;have aU:Ke.next=K3.next+1:=by omega
  have bh:Fr none K3 Ke:=fd.jE g3 fe (λ f e=>by cases e;exact be _);have bC:=o7.keep bh (by simp);have aK:∀{fm:Option Nat} {K6:ah},Fr fm Ke K6->fm≠some K.next->bq K6.objs.get K.next (0+1) 1=some [.int .u8 A]:=λ fr aU=>(bC.keep fr (λ e=>aU e.symm)).rd (by simp)
  refine aO (W.mono (R:=λ e T K6=>e=.normal/\∃(av:aa) (aj:List zX),jh K6 K3.next (rw4 K3.next (.str [sA[i]]) (.int .i64 p) (.bool ab) av)/\(ns xN).rel K6.objs.get (λ f=>f<Ke.next) aj [av]/\aj.length<=1/\(∀a∈aj,TA a)/\Fr (some K3.next) Ke K6/\Good K6/\aw T 0=sN/\aw T 1=sE/\aw T 4=.ptr H.next 0/\aw T 5=.ptr (H.next+1) 0/\aw T 6=.int .i64 (Int.ofNat i)/\aw T 8=.ptr K3.next 0) ?_ ?_)
  .have bI:i<sU.length:=al;have bw:jY af Ke.objs.get 9 (.str [117,118,119,120,121,122]) (some (.int .i64 (Int.ofNat i))) (some (.int .i64 (Int.ofNat (i+1))))=some (.str [sU[i]]):=OP (s:=sU) bI;refine aO (bW (H':=Ke) (λ T=>aw T 9=.str [sU[i]]) ?_ ?_)
   ·(repeat ((first|apply bA (br rfl)|apply bO rfl rfl rfl);simp+decide only[AB,e6,G,bw];rfl))
    exact bF (by simp+decide only[AB])
   intro Ta t9 ka;have h0:=(ka 0 rfl).trans e0;have h1:=(ka 1 rfl).trans e1;have h4:=(ka 4 rfl).trans e4;have h5:=(ka 5 rfl).trans e5;have h6:=(ka 6 rfl).trans e6;have h7:=(ka 7 rfl).trans e7;have h8:=(ka 8 rfl).trans t8;obtain⟨q5,q6,q7⟩:=Cw (P:=af) (t:=5) (k:=.u8) (a:=A) (b:=4) F.2.1 (by decide);have aJ:=aK (Fr.refl none Ke) (by simp);refine aO (bW (H':=Ke) (λ T=>aw T 58=.int .u8 (A.tmod 4)) ?_ ?_)
   ·(repeat ((first|apply bA (br rfl)|apply bO rfl rfl rfl);simp+decide only[AB,h7,NP,GO aJ,q5];rfl))
    exact bF (by simp+decide only[AB])
   intro Tb aH kb;have i0:=(kb 0 rfl).trans h0;have i1:=(kb 1 rfl).trans h1;have i4:=(kb 4 rfl).trans h4;have i5:=(kb 5 rfl).trans h5;have i6:=(kb 6 rfl).trans h6;have i7:=(kb 7 rfl).trans h7;have i8:=(kb 8 rfl).trans h8;have i9:=(kb 9 rfl).trans t9;refine ku (aO (bW (H':=Ke) (λ T=>aw T 59=.bool (decide (A.tmod 4=1))) ?_ ?_))
   ·(repeat ((first|apply bA (br rfl)|apply bO rfl rfl rfl);simp+decide only[AB,aH];rfl))
    exact bF (by simp+decide only[AB])
   intro Tc bp kc;have j0:=(kc 0 rfl).trans i0;have j1:=(kc 1 rfl).trans i1;have j4:=(kc 4 rfl).trans i4;have j5:=(kc 5 rfl).trans i5;have j6:=(kc 6 rfl).trans i6;have j7:=(kc 7 rfl).trans i7;have j8:=(kc 8 rfl).trans i8;have j9:=(kc 9 rfl).trans i9;have bG:=(kc 58 rfl).trans aH;refine jZ (by rw[mc,bp]) (λ h1=>?_) (λ h1=>?_)
   .obtain⟨m1,m2,m3⟩:=adp (P:=af) (t:=5) (a:=A) (b:=4) F.2 (by decide);obtain⟨m4,m5,m6⟩:=Cw (P:=af) (t:=3) (k:=.i64) (a:=A.tdiv 4) (b:=9) m2 (by decide);have m7:∀{t:TypeId},cV af .add t (.int .i64 3) (.int .i64 ((A.tdiv 4).tmod 9))=some (.int .i64 (3+(A.tdiv 4).tmod 9)):=aog (by unfold iO;omega);obtain⟨hi,bT⟩:∃hi:Int,hi=3+(A.tdiv 4).tmod 9:=⟨_,rfl⟩;rw[<-bT]at m7;have gf:=gD ge [.str [sU[i]],.int .i64 (-3),.int .i64 hi,.ai] true 4;have ff:=gH ge [.str [sU[i]],.int .i64 (-3),.int .i64 hi,.ai] true 4;have of:=ic Ke [.str [sU[i]],.int .i64 (-3),.int .i64 hi,.ai] true 4;generalize aq:alloc Ke [.str [sU[i]],.int .i64 (-3),.int .i64 hi,.ai] true 4=Kf at*;obtain⟨Kg,z5,og,fg,bE,gg⟩:=lO gf (oe.keep ff (by simp)) (off:=3) (new:=[.slice Ke.next 0 1 none]) (by simp[ep]) rfl;have s4:dJ af Kf 45 (.ptr K3.next (0+3)) (.slice Ke.next 0 1 none)=some Kg:=by rw[afd];exact z5
    refine bW (H':=Kg) (λ T=>True) ?_ ?_
    ·(repeat ((first|apply bA (br rfl)|apply bO rfl rfl rfl);simp+decide only[AB,j7,j8,j9,NP,GO aJ,m1,KB ⟨m2,m3⟩,m4,m7,avS,aa0,aq,adi,s4];rfl))
     exact bF trivial
    intro Td _ kd;refine⟨rfl,.slice Ke.next 0 1 none,[([sU[i]],-3,hi,[])],og,?_,be _,λ a ha=>?_,ff.aeG fg,gg,(kd 0 rfl).trans j0,(kd 1 rfl).trans j1,(kd 4 rfl).trans j4,(kd 5 rfl).trans j5,(kd 6 rfl).trans j6,(kd 8 rfl).trans j8⟩;.exact Xw (fg.row _ _ of.row (by simp;omega)) rfl rfl (by simp) azU
    rw[dp]at ha;subst ha;exact⟨ab7 i al,by simp,by simp,by simp only;omega,by simp only;omega,by simp,λ t ht=>by cases ht⟩
   refine aO (bW (H':=Ke) (λ T=>aw T 71=.bool (decide (A.tmod 4=2))) ?_ ?_)
   ·(repeat ((first|apply bA (br rfl)|apply bO rfl rfl rfl);simp+decide only[AB,bG];rfl))
    exact bF (by simp+decide only[AB])
   intro Td bn kd;have l0:=(kd 0 rfl).trans j0;have l1:=(kd 1 rfl).trans j1;have l4:=(kd 4 rfl).trans j4;have l5:=(kd 5 rfl).trans j5;have l6:=(kd 6 rfl).trans j6;have l8:=(kd 8 rfl).trans j8;have l9:=(kd 9 rfl).trans j9;refine jZ (by rw[mc,bn]) (λ h2=>?_) (λ h2=>?_)
   .have gf:=gD ge [.str [111,102,102],.str [111,110]] true 1;have ff:=gH ge [.str [111,102,102],.str [111,110]] true 1;have of:=ic Ke [.str [111,102,102],.str [111,110]] true 1;generalize aq:alloc Ke [.str [111,102,102],.str [111,110]] true 1=Kf at*;have ca:Kf.next=Ke.next+1:=by rw[<-aq];rfl
    have b2:=gD gf [.str [sU[i]],.int .i64 0,.int .i64 1,.slice Ke.next 0 2 none] true 4;have aF:=gH gf [.str [sU[i]],.int .i64 0,.int .i64 1,.slice Ke.next 0 2 none] true 4;have bB:=ic Kf [.str [sU[i]],.int .i64 0,.int .i64 1,.slice Ke.next 0 2 none] true 4;generalize a7:alloc Kf [.str [sU[i]],.int .i64 0,.int .i64 1,.slice Ke.next 0 2 none] true 4=b6 at*;obtain⟨Kg,z5,og,fg,bE,gg⟩:=lO b2 ((oe.keep ff (by simp)).keep aF (by simp)) (off:=3) (new:=[.slice Kf.next 0 1 none]) (by simp[ep]) rfl;have s4:dJ af b6 45 (.ptr K3.next (0+3)) (.slice Kf.next 0 1 none)=some Kg:=by rw[afd];exact z5
    refine bW (H':=Kg) (λ T=>True) ?_ ?_
    ·(repeat ((first|apply bA (br rfl)|apply bO rfl rfl rfl);simp+decide only[AB,l8,l9,anr,aq,att,aa0,a7,adi,s4];rfl))
     exact bF trivial
    intro Tf _ kf;refine⟨rfl,.slice Kf.next 0 1 none,[([sU[i]],0,1,[[111,102,102],[111,110]])],og,?_,be _,λ a ha=>?_,(ff.trans aF).aeG fg,gg,(kf 0 rfl).trans l0,(kf 1 rfl).trans l1,(kf 4 rfl).trans l4,(kf 5 rfl).trans l5,(kf 6 rfl).trans l6,(kf 8 rfl).trans l8⟩;.refine Xw (fg.row _ _ bB.row (by simp;omega)) rfl rfl (by simp;omega) (api (am7 (fg.row _ _ (aF.row _ _ of.row (by simp)) (by simp;omega)) rfl rfl (by simp)))
    rw[dp]at ha;subst ha;refine⟨ab7 i al,by simp,by simp,by simp,by simp,by simp,λ t ht=>?_⟩;simp only[ck,lB,l7]at ht;rcases ht with rfl|rfl<;>decide
   exact kH ⟨rfl,.ai,[],oe,Yo _ _ _,iB _,λ a ha=>(by cases ha),Fr.refl _ _,ge,l0,l1,l4,l5,l6,l8⟩
  rintro e Th K6 ⟨rfl,av,aj,o8,a4,bX,bV,b5,g6,m0,m1,m4,m5,m6,m8⟩
  show W af ng Z7 124 _ Th K6 _;have ac:=jr.lt gk hL;have cj:H2.next<=K.next:=L.next;have bg:Fr none K Ke:=(((fa.jE gk fb (λ f e=>by cases e;exact be _)).jE gk bi (λ f e=>by cases e;exact be _)).trans fd).jE gk fe (λ f e=>by grind);have an:Fr none K K6:=bg.jE gk b5 (λ f e=>by cases e;omega);have aR:=az.keep an (by simp);have Dj:bq K6.objs.get (H.next+1) (0+0) 1=some [v]:=aR.rd (by simp);have bz:bq K6.objs.get K3.next 0 4=some [.str [sA[i]],.int .i64 p,.bool ab,av]:=o8.rd (by simp);have ch:av.eh=true:=by grind[afI]
  have gh:=gD g6 [.str [sA[i]],.int .i64 p,.bool ab,av] true 4;have fh:=gH g6 [.str [sA[i]],.int .i64 p,.bool ab,av] true 4;have ak:=adU (H:=K6) (cells:=[.str [sA[i]],.int .i64 p,.bool ab,av]) (sz:=4) rfl;generalize ap:alloc K6 [.str [sA[i]],.int .i64 p,.bool ab,av] true 4=Kh at*;have b9:Kh.next=K6.next+1:=by rw[<-ap];rfl
  have bY:jr A0 Kh H2.next v q fl:=(hL.keep an (λ f e=>by cases e)).keep fh (λ f e=>by cases e);have au:Fr none K Kh:=an.trans fh;have aT:A0.rel Kh.objs.get (λ f=>f<H2.next\/fl=some f) ([sA[i]],p,ab,aj) [.str [sA[i]],.int .i64 p,.bool ab,av]:=by refine anu ((ns xN).B7 fh ((ns xN).sub (λ f hf=>?_) a4));grind
  obtain⟨v',Ki,aE,aB,a6,am,gi⟩:=jr.push (bytes:=Tryz.t47.bytes) gh bY (by decide) aT (by
   have:Tryz.t47.bytes<=1000:=by decide
   have h2:(q.length+1)*Tryz.t47.bytes<=7*1000:=Ib (by omega) this;unfold eJ;omega) (by unfold eJ;omega) (by have:=au.next;omega)
  have Z:=aqs (H:=Kh) (s:=v) (x:=.slice K6.next 0 1 none) (n:=1) rfl ak;rw[show gm Kh 4 Tryz.t47.bytes v 1 [.str [sA[i]],.int .i64 p,.bool ab,av]=some (v',Ki)from aB]at Z;have Y:∀f,fl=some f->H2.next<=f:=hL.1;have ay:=(aR.keep fh (by simp)).keep am (λ e=>absurd (show H2.next<=H.next+1 from Y _ e.symm) (by omega));have aQ:=a6.one;obtain⟨Kj,z7,oj,fj,nj,gj⟩:=lO gi ay (off:=0) (new:=[v']) (by simp) (by simp[aQ]);have s7:dJ af Ki 28 (.ptr (H.next+1) (0+0)) v'=some Kj:=by rw[au3 aQ];exact z7
  refine bW (H':=Kj) (λ T=>True) ?_ ?_
  ·(repeat ((first|apply bA (br rfl)|apply bO rfl rfl rfl);simp+decide only[AB,m5,m8,EM,Ez Dj,anY bz,auo,ap,Z,s7];rfl))
   exact bF trivial
  intro Ti _ ki;have n0:=(ki 0 rfl).trans m0;have n1:=(ki 1 rfl).trans m1;have n4:=(ki 4 rfl).trans m4;have n5:=(ki 5 rfl).trans m5;have n6:=(ki 6 rfl).trans m6;show W af ng Z7 124 _ Ti Kj _;refine bW (H':=Kj) (λ T=>aw T 6=.int .i64 (Int.ofNat (i+1))) ?_ ?_
  ·(repeat ((first|apply bA (br rfl)|apply bO rfl rfl rfl);simp+decide only[AB,n6,G];rfl))
   exact bF (by simp+decide only[AB])
  intro Tj bo kj;refine⟨m- 1,by omega,i+1,v',q++[([sA[i]],p,ab,aj)],aE,by omega,by simp[aA],λ j x hx=>?_,a6.keep fj (λ f e=>by grind),oj,?_,gj,(kj 0 rfl).trans n0,(kj 1 rfl).trans n1,(kj 4 rfl).trans n4,(kj 5 rfl).trans n5,bo⟩
  .by_cases hj:j<q.length;.grind
   rw[xo (by omega)]at hx;have bS:j-q.length=0:=by grind
   rw[bS]at hx;cases hx;have bR:j=i:=by omega
   subst bR;have aM:D.tmod (Int.ofNat (j+1))<((j+1:Nat):Int):=r3;have aN:=r2;refine⟨aur j al,?_,?_,bX,bV⟩;.grind
   grind
  have h1:Fr (some (H.next+1)) H2 Kh:=L.E7 g1 au (λ f e=>by cases e);have h2:Fr (some (H.next+1)) H2 Ki:=h1.E7 g1 am Y;exact h2.trans fj
 .have hc:=xt hc;have cf:1<=i:=by omega
  refine tX ?_;show W af ng Z7 124 _ T4 K _;refine aO (aO (bW (H':=K) (λ T=>aw T 10=.int .i64 (Int.ofNat 0)) ?_ ?_))
  ·(repeat ((first|apply bA (br rfl)|apply bO rfl rfl rfl);simp+decide only[AB,v0];rfl))
   exact bF (by simp+decide only[AB];rfl)
  intro T5 bv k5;have w1:=(k5 1 rfl).trans v1;have w4:=(k5 4 rfl).trans v4;have w5:=(k5 5 rfl).trans v5;have ad:dD af 22 sE=some (.int .i64 (Int.ofNat zE.length)):=by grind[p9,Tryz.underlying22,List.length_map]
  have ac:=jr.lt gk hL;have cl:H.next+1<K.next:=by have:=(gk.wf _ _ az.row).1;omega
  refine ku (tj (λ mm T K'=>∃(j:Nat) (w:aa) (y:List HH) (fl2:Option Nat),mm+j=5/\y.length=j/\(∀e∈y,Tq i e)/\jr Hz K' K.next w y fl2/\jh K' (H.next+1) (qA (H.next+1) v w)/\Fr (some (H.next+1)) K K'/\Good K'/\aw T 1=sE/\aw T 4=.ptr H.next 0/\aw T 5=.ptr (H.next+1) 0/\aw T 10=.int .i64 (Int.ofNat j)) ?_ 5 _ _ ⟨0,.ai,[],none,rfl,rfl,λ e h=>(by cases h),jr.nil _ _ _,az,Fr.refl _ _,gk,w1,w4,w5,bv⟩)
  rintro mm T K' ⟨j,w,y,fl2,ce,bU,aZ,ar,ao,ag,g',A,x4,x5,Ck⟩
  have aD:jr A0 K' H2.next v q fl:=hL.keep ag (λ f e=>by cases e;omega);refine aO (aO (bW (H':=K') (λ T=>aw T 91=.bool (decide (j<zE.length/\j<5))) ?_ ?_))
  .by_cases h1:j<zE.length
   .have e2:decide (Int.ofNat j<Int.ofNat zE.length)=true:=dV (NG.2 h1);by_cases h2:j<5
    .have e3:decide (Int.ofNat j<5)=true:=dV (by simp only[mS];omega);rw[dV (show j<zE.length/\j<5 from⟨h1,h2⟩)]
     (repeat ((first|apply bA (br rfl)|apply bO rfl rfl rfl);simp+decide only[AB,A,Ck,e2,e3,ad];rfl))
     exact bF (by simp+decide only[AB])
    have e3:decide (Int.ofNat j<5)=false:=cX (by simp only[mS];omega);rw[cX (show¬(j<zE.length/\j<5) by omega)]
    (repeat ((first|apply bA (br rfl)|apply bO rfl rfl rfl);simp+decide only[AB,A,Ck,e2,e3,ad];rfl))
    exact bF (by simp+decide only[AB])
   have e2:decide (Int.ofNat j<Int.ofNat zE.length)=false:=cX (λ h=>h1 (NG.1 h));rw[cX (show¬(j<zE.length/\j<5) by omega)]
   (repeat ((first|apply bA (br rfl)|apply bO rfl rfl rfl);simp+decide only[AB,A,Ck,e2,ad];rfl))
   exact bF (by simp+decide only[AB])
  intro T6 bm k6;have y1:=(k6 1 rfl).trans A;have y4:=(k6 4 rfl).trans x4;have y5:=(k6 5 rfl).trans x5;have bk:=(k6 10 rfl).trans Ck;refine jZ (by rw[mc,bm]) (λ hc=>?_) (λ hc=>?_)
  .obtain⟨aY,aX⟩:=jk hc;have ax:bq K'.objs.get (H.next+1) (0+0) 1=some [v]:=ao.rd (by simp);have aL:bq K'.objs.get (H.next+1) (0+1) 1=some [w]:=ao.rd (by simp);have bQ:dD af 28 v=some (.int .i64 (Int.ofNat i)):=by obtain⟨_,cs,h1,_⟩:=aD;have:=h1.read.dD Tryz.underlying28;rw[aA]at this;exact this
   refine kH (aO (ku (aO (bW (H':=K') (λ T=>aw T 11=.int .i64 (Int.ofNat i)) ?_ ?_))))
   ·(repeat ((first|apply bA (br rfl)|apply bO rfl rfl rfl);simp+decide only[AB,y5,EM,Ez ax,bQ];rfl))
    exact bF (by simp+decide only[AB])
   intro T7 bu k7;have z1:=(k7 1 rfl).trans y1;have z4:=(k7 4 rfl).trans y4;have z5:=(k7 5 rfl).trans y5;have aG:=(k7 10 rfl).trans bk;have G:∀{t:TypeId},cV af .add t (.int .i64 (Int.ofNat j)) (.int .i64 1)=some (.int .i64 (Int.ofNat (j+1))):=wu (by omega);have bK:j<tM.length:=aX;have Pk:jY af K'.objs.get 9 (.str [101,102,103,104,105]) (some (.int .i64 (Int.ofNat j))) (some (.int .i64 (Int.ofNat (j+1))))=some (.str [tM[j]]):=OP (s:=tM) bK;have ba:cu I K'.objs.get:=λ u r e=>by have hu:=bb u r e;refine ag.row u r hu ?_;intro e2;have h3:r.aC=H.next+1:=dU e2;have:=(g.wf u r (hI u r e)).2;omega
   obtain⟨pp,off,q1,q2⟩:=aeN ba hE aY;have F:=pE _ (xC aY);have bx:bq K'.objs.get pp (off+0) 1=some [.int .u8 zE[j].1]:=PX q2 (c:=0) (m:=1) (by decide);have ES:bq K'.objs.get pp (off+1) 1=some [.int .u8 zE[j].2]:=PX q2 (c:=1) (m:=1) (by decide);obtain⟨r1,r2,r3⟩:=Cw (P:=af) (t:=3) (k:=.i64) (a:=zE[j].1) (b:=Int.ofNat i) F.1.1 (by simp only[mS];omega);obtain⟨r4,r5,r6⟩:=Cw (P:=af) (t:=3) (k:=.i64) (a:=zE[j].2) (b:=Int.ofNat i) F.2.1 (by simp only[mS];omega);obtain⟨pf,bM⟩:∃p:Int,p=zE[j].1.tmod (Int.ofNat i):=⟨_,rfl⟩;obtain⟨pt,bL⟩:∃p:Int,p=zE[j].2.tmod (Int.ofNat i):=⟨_,rfl⟩;rw[<-bM]at r1 r2 r3;rw[<-bL]at r4 r5 r6;have gh:=gD g' [.str [tM[j]],.int .i64 pf,.int .i64 pt,.int .i64 0,.int .i64 (-1),.int .i64 0,.int .i64 (-1)] true 7;have fh:=gH g' [.str [tM[j]],.int .i64 pf,.int .i64 pt,.int .i64 0,.int .i64 (-1),.int .i64 0,.int .i64 (-1)] true 7;have ak:=adU (H:=K') (cells:=[.str [tM[j]],.int .i64 pf,.int .i64 pt,.int .i64 0,.int .i64 (-1),.int .i64 0,.int .i64 (-1)]) (sz:=7) rfl;generalize ap:alloc K' [.str [tM[j]],.int .i64 pf,.int .i64 pt,.int .i64 0,.int .i64 (-1),.int .i64 0,.int .i64 (-1)] true 7=Kh at*;have bZ:jr Hz Kh K.next w y fl2:=ar.keep fh (λ f e=>by cases e)
   obtain⟨w',Ki,aE,aB,bf,am,gi⟩:=jr.push (bytes:=Tryz.t93.bytes) gh bZ (by decide) (amY (n:=[tM[j]]) (a:=pf) (b:=pt) (c:=0) (d:= -1) (e:=0) (f:= -1)) (by
    have:Tryz.t93.bytes<=1000:=by decide
    have h2:(y.length+1)*Tryz.t93.bytes<=7*1000:=Ib (by omega) this;unfold eJ;omega) (by unfold eJ;omega) (by have:=ag.next;have:=fh.next;omega)
   have Z:=aqj (H:=Kh) (s:=w) (x:=.slice K'.next 0 1 none) (n:=1) rfl ak;rw[show gm Kh 7 Tryz.t93.bytes w 1 [.str [tM[j]],.int .i64 pf,.int .i64 pt,.int .i64 0,.int .i64 (-1),.int .i64 0,.int .i64 (-1)]=some (w',Ki)from aB]at Z;have Y:∀f,fl2=some f->K.next<=f:=ar.1;have ay:=(ao.keep fh (by simp)).keep am (λ e=>absurd (show K.next<=H.next+1 from Y _ e.symm) (by omega));have aP:=bf.one;obtain⟨Kj,z7,oj,fj,nj,gj⟩:=lO gi ay (off:=1) (new:=[w']) (by simp) (by simp[aP]);have s7:dJ af Ki 29 (.ptr (H.next+1) (0+1)) w'=some Kj:=by rw[ajc aP];exact z7
   refine Pp (H':=Kj) (λ T=>True) g'.wf (by kernel_rfl) ?_ ?_
   ·(repeat ((first|apply TZ rfl (br rfl)|apply Ri rfl (br rfl));simp+decide only[AB,z1,z5,aG,bu,als,akr aL,G,Pk,q1,agO,NP,SM (v:=pp) (off:=off) (i:=0) (by decide),GO bx,GO ES,KB F.1,KB F.2,r1,r4,alX,ay3,ap,Z,s7];rfl))
    exact QW trivial
   intro T8 _ k8;have Jg:=(k8 10 rfl).trans aG;show W af ng Z7 124 _ T8 Kj _;refine bW (H':=Kj) (λ T=>aw T 10=.int .i64 (Int.ofNat (j+1))) ?_ ?_
   ·(repeat ((first|apply bA (br rfl)|apply bO rfl rfl rfl);simp+decide only[AB,Jg,G];rfl))
    exact bF (by simp+decide only[AB])
   intro T9 aI k9;refine⟨mm- 1,by omega,j+1,w',y++[([tM[j]],pf,pt,0,-1,0,-1)],aE,by omega,by simp[bU],λ e he=>?_,bf.keep fj (λ f e=>by grind),oj,((ag.KP fh).E7 gk am Y).trans fj,gj,(k9 1 rfl).trans ((k8 1 rfl).trans z1),(k9 4 rfl).trans ((k8 4 rfl).trans z4),(k9 5 rfl).trans ((k8 5 rfl).trans z5),aI⟩;rcases jA.1 he with he|he
   .exact aZ e he
   rw[dp]at he;subst he;exact⟨azy j aX,⟨r2,r3⟩,⟨r5,r6⟩,rfl⟩
  refine tX ?_;show W af ng Z7 124 _ T6 K' _;have bD:jh K' H.next (qA H.next .ai .ai):=(o4.keep L (by simp)).keep ag (by grind);have Dj:bq K'.objs.get (H.next+1) 0 2=some [v,w]:=ao.rd (by simp);obtain⟨Kz,z1,oz,fz,nz,gz⟩:=lO g' bD (off:=0) (new:=[v,w]) (by simp) (by simp[aD.one,ar.one]);have s8:dJ af K' 31 (.ptr H.next 0) (.agg [v,w])=some Kz:=by rw[J3];exact z1
  refine aO (bW (H':=Kz) (λ T=>aw T 4=.ptr H.next 0) ?_ ?_)
  ·(repeat ((first|apply bA (br rfl)|apply bO rfl rfl rfl);simp+decide only[AB,y4,y5,N7 Dj,s8];rfl))
   exact bF (by simp+decide only[AB,y4])
  intro T7 b7 _;have b8:bq Kz.objs.get H.next 0 2=some [v,w]:=oz.rd (by simp[ep]);refine oR ⟨by simp,[.agg [v,w]],?_,?_⟩;.show jL af Kz.objs.get T7 [.cell 4 31]=_;grind[jL,N7]
  have a5:Fr none H K':=by have h1:Fr none H K:=bj.jE g L (λ f e=>by cases e;omega);exact h1.jE g ag (λ f e=>by cases e;omega)
  refine⟨a5.jE g fz (λ f e=>by cases e;exact be _),gz,v,w,q,y,fl,K.next,rfl,?_,?_,ac,by have:=L.next;omega,by omega,by omega,by omega,bN,λ e he=>by rw[aA];exact aZ e he⟩;.rw[<-bP];exact aD.keep fz (λ f e=>by grind)
  exact(ar.keep fz (λ f e=>by grind)).rel
end
section
open Go.Proofs
variable{s:Sh α}
def WY:∀{a b:List ae} {x y:List aa},cE I a x->cE I b y->cE I (a++b) (x++y)
 |[],b,x,y,h,k=>by rw[zR.1 h];exact k
 |v::a,b,x,y,h,k=>by simp only[cE]at h;obtain⟨c,cs,rfl,A,q⟩:=h;simp only[zC,cE];exact⟨c,cs++y,rfl,A,WY q k⟩
def rz{α:Type}(s:Sh α)(c:α->List ae):Prop:=(∀a,(c a).length=s.sz)/\∀(g:Nat->Option Row) (S:Nat->Prop) (I:Im) (a:α) (cs:List aa),(∀u r,g u=some r->¬S r.aC->I u=some r)->s.rel g S a cs->cE I (c a) cs
def Lb:rz yJ λ t=>[.sc (.str t)]:=⟨λ _=>rfl,λ g S I a cs _ h=>by have h:cs=[.str a]:=h;subst h;simp[cE,RP,lX]⟩
def wE:rz uG λ n=>[eI n]:=⟨λ _=>rfl,λ g S I a cs _ h=>by have h:cs=[.int .i64 a]:=h;subst h;simp[cE,RP,lX]⟩
def aAv:rz afe λ b=>[eB b]:=⟨λ _=>rfl,λ g S I a cs _ h=>by have h:cs=[.bool a]:=h;subst h;simp[cE,RP,lX]⟩
def sS{β:Type}{t:Sh β}{c:α->List ae}{d:β->List ae}(h:rz s c)(k:rz t d):rz (rD s t) λ x=>c x.1++d x.2:=⟨λ a=>by rw[dM,h.1,k.1];rfl,λ g S I a cs q ⟨F,D,e,A,y⟩=>by rw[e];exact WY (h.2 g S I _ _ q A) (k.2 g S I _ _ q y)⟩
def Pq{c:α->List ae}(h:rz s c)(D:∀u r,g u=some r->¬S r.aC->I u=some r):∀{l:List α} {q:List aa},q.length=l.length*s.sz->(∀i a,l[i]? =some a->s.rel g S a (lT q s.sz i))->bR I s.sz (l.map c) q
 |[],q,y,_=>by simp at y;rw[y];simp[bR]
 |a::l,q,y,A=>by
  simp only[fL,bR];have h0:=A 0 a rfl;have G:lT q s.sz 0=q.take s.sz:=by unfold lT;rw[uh,cM]
  rw[G]at h0;refine⟨h.1 a,h.2 g S I _ _ D h0,Pq h D (by rw[xz,y,cD,jR];omega) λ i b F=>?_⟩;have:=A (i+1) b F;unfold lT at this⊢;rw[pG,show s.sz+i*s.sz=(i+1)*s.sz by rw[jR];omega];exact this
def aaw{c:α->List ae}(h:rz s c)(y:∀u r,g u=some r->¬S r.aC->I u=some r){v:aa}(A:(ns s).rel g S l [v]):RP I (.sl (l.map c) none) v:=by
 obtain⟨Y,Z,e,⟨F,q⟩,h3⟩:=A;cases e;simp only[RP,aF];rcases q with⟨q,D⟩|⟨x,off,r,rfl,M,L,G,J,e5⟩
 .have:l=[]:=km q;subst this;exact .inl ⟨rfl,D⟩
 refine .inr ⟨x,off,none,r,s.sz,rfl,y _ _ M L,.inr ⟨rfl,G⟩,J,?_⟩;rw[e5];exact Pq h y F h3
def ahL{c:α->List ae}(h:rz s c):rz (ns s) λ l=>[.sl (l.map c) none]:=⟨λ _=>rfl,λ g S I a cs A y=>by obtain⟨v,D,e,q⟩:=y;subst e;simp only[cE];exact⟨v,[],rfl,aaw h A ⟨v,D,rfl,q⟩,rfl⟩⟩
def RA(a:zX):List ae:=[.sc (.str a.1),eI a.2.1,eI a.2.2.1,.sl (a.2.2.2.map λ t=>[.sc (.str t)]) none]
def vR(x:vx):List ae:=[.sc (.str x.1),eI x.2.1,eB x.2.2.1,.sl (x.2.2.2.map RA) none]
def NS(e:HH):List ae:=[.sc (.str e.1),eI e.2.1,eI e.2.2.1,eI e.2.2.2.1,eI e.2.2.2.2.1,eI e.2.2.2.2.2.1,eI e.2.2.2.2.2.2]
def atI:rz xN RA:=sS Lb (sS wE (sS wE (ahL Lb)))
def as8:rz A0 vR:=sS Lb (sS wE (sS aAv (ahL atI)))
def amr:rz Hz NS:=sS Lb (sS wE (sS wE (sS wE (sS wE (sS wE wE)))))
def aaE{x:ae}{b:aa}(F:RP I x b)(G:k<sz):∀{es:aS} {cs:List aa} {i:Nat} {e:List ae},bR I sz es cs->cs.length=es.length*sz->es[i]? =some e->bR I sz (es.set i (e.set k x)) (cs.set (i*sz+k) b)
 |[],cs,i,e,_,_,h=>by simp at h
 |d::es,cs,0,e,h,D,q=>by
  simp only[bR]at h;simp at q;subst q;simp only[List.set_cons_zero,bR];refine⟨by rw[VA];exact h.1,?_,?_⟩
  .rw[uh,iX,aiN]
   have A:∀(d:List ae) (c:List aa) (k:Nat),cE I d c->cE I (d.set k x) (c.set k b):=by
    intro d;induction d with
    |nil=>intro c k h;rw[zR.1 h];simp[cE]
    |cons v d L=>
     intro c k h;simp only[cE]at h;obtain⟨Z,y,rfl,Y,J⟩:=h;cases k;.simp only[List.set_cons_zero,cE];exact⟨b,y,rfl,F,J⟩
     rename_i k;simp only[aiy,cE];exact⟨Z,_,rfl,Y,L y k J⟩
   exact A _ _ _ h.2.1
  rw[uh,iX,List.drop_set_of_lt G];exact h.2.2
 |d::es,cs,i+1,e,h,D,q=>by
  simp only[bR]at h;simp at q;have M:sz<=cs.length:=by rw[D,cD,jR];omega
  have hi:(i+1)*sz+k=sz+(i*sz+k):=by rw[jR];omega
  simp only[aiy,bR];refine⟨h.1,?_,?_⟩;.rw[hi,List.take_set_of_le (by omega)];exact h.2.1
  rw[hi,List.drop_set,aj (by omega),show sz+(i*sz+k)-sz=i*sz+k by omega];exact aaE F G h.2.2 (by rw[xz,D,cD,jR];omega) q
end
section
open Go.Proofs
variable{P:Program}{ng n D:Nat}{gl:aM}
def cj.aAK{H:ah}(g:Good H){n:Nat}(h:cj H sz n s cs fm)(hi:i<n)(hk:k<sz){c:aa}(hc:c.eh=true){e:TypeId}{j:TypeInfo}(J:P.underlying t=some (.slice e))(Y:P.info? e=some j)(y:j.size=sz):
 ∃v off H',(∀kd,iM P t s (.int kd (.ofNat i))=some (.ptr v off))/\gM H v (off+k) [c]=some H'/\cj H' sz n s (cs.set (i*sz+k) c) fm/\Fr fm H H'/\Good H':=by
 obtain⟨h1,⟨rfl,rfl,_⟩|⟨v,r,rfl,o,A,M,q,rfl⟩⟩:=h;.omega
 .have L:i*sz+sz<=n*sz:=by have:=mQ sz (show i+1<=n by omega);rw[jR]at this;omega
  obtain⟨H',G,F,Z,hn,g'⟩:=lO g o (off:=i*sz+k) (new:=[c]) (by simp;omega) (by simp[hc]);refine⟨v,0+i*sz,H',λ kd=>?_,?_,⟨by simpa using h1,.inr ⟨v,_,rfl,F,A,?_,?_,rfl⟩⟩,Z,g'⟩;.simp only[iM,J,Y,b9 hi,y]
  .rw[show 0+i*sz+k=i*sz+k by omega];exact G
  .simp only;rw[Lz (by omega)];simpa using M
  simp only;rw[Lz (by omega),aiN,<-q]
end
section
open Go.Proofs
variable{ng:Nat}{gl:aM}{Z7:aW}
def alQ{l:List aa}{H:ah}:ir af Z7 7 l H=Z7 7 l H:=by simp only[ir,Tryz.func7];rfl
def alF:Tryz.prog.info? 27=some Tryz.t27:=by kernel_rfl
def ahV:Tryz.prog.info? 23=some Tryz.t23:=by kernel_rfl
def Wg:Tryz.prog.info? 24=some Tryz.t24:=by kernel_rfl
def W6:Tryz.prog.info? 25=some Tryz.t25:=by kernel_rfl
def YO:Tryz.prog.info? 36=some Tryz.t36:=by kernel_rfl
def EL(h:i<5):gv af 27 (.ptr v o) i=some (.ptr v (o+i)):=by
 have q:Nat.beq Tryz.t22.size 0=false:=rfl;have A:Nat.beq Tryz.t23.size 0=false:=rfl;have h3:Nat.beq Tryz.t24.size 0=false:=rfl;have y:Nat.beq Tryz.t25.size 0=false:=rfl
 match i,h with
 |0,_=>simp only[gv,Tryz.underlying27,Rz,q];rfl
 |1,_=>simp only[gv,Tryz.underlying27,Rz,q];rfl
 |2,_=>simp only[gv,Tryz.underlying27,ahV,A];rfl
 |3,_=>simp only[gv,Tryz.underlying27,Wg,h3];rfl
 |4,_=>simp only[gv,Tryz.underlying27,W6,y];rfl
def AT:gv af 27 (.ptr v o) 0=some (.ptr v (o+0)):=EL (by decide)
def zW:gv af 27 (.ptr v o) 1=some (.ptr v (o+1)):=EL (by decide)
def BM:gv af 27 (.ptr v o) 2=some (.ptr v (o+2)):=EL (by decide)
def Dr:gv af 27 (.ptr v o) 3=some (.ptr v (o+3)):=EL (by decide)
def Cg:gv af 27 (.ptr v o) 4=some (.ptr v (o+4)):=EL (by decide)
def pY{c:aa}(h:bq g v off 1=some [c]):de af g 22 (.ptr v off)=some c:=by simp only[de,Tryz.underlying22,Rz,h];rfl
def CQ{c:aa}(h:bq g v off 1=some [c]):de af g 23 (.ptr v off)=some c:=by simp only[de,Tryz.underlying23,ahV,h];rfl
def CX{c:aa}(h:bq g v off 1=some [c]):de af g 24 (.ptr v off)=some c:=by simp only[de,Tryz.underlying24,Wg,h];rfl
def Cj{c:aa}(h:bq g v off 1=some [c]):de af g 25 (.ptr v off)=some c:=by simp only[de,Tryz.underlying25,W6,h];rfl
def TH:ig af 36=some (.agg [.ai,.ai]):=by kernel_rfl
def apQ:lP af 31 (some [])=some (.agg [.ai,.ai]):=by kernel_rfl
def arQ:lP af 36 (some [])=some (.agg [.ai,.ai]):=by kernel_rfl
def ahR{H:ah}{a b:aa}:dJ af H 36 (.ptr v off) (.agg [a,b])=gM H v off [a,b]:=by simp only[dJ,YO];rfl
def arE(h:bq g v off 2=some cs):de af g 36 (.ptr v off)=some (.agg cs):=by have q:Tryz.t36.size=2:=rfl;simp only[de,Tryz.underlying36,YO,q,h];rfl
def Nf{H:ah}{new:List aa}(h:gM H v off new=some H'):H'.aG=H.aG:=by
 unfold gM at h;split at h;.cases h
 split at h;.cases h;rfl
 cases h
def JF(x:vx):vx:=(x.1,x.2.1,false,x.2.2.2)
def Dh(h:List vx)(j:Nat)(tn:aS):Prop:=tn.length=h.length/\∀i x,h[i]? =some x->tn[i]? =some (vR (if i<j then JF x else x))
def Dh.step{q:List vx}{j:Nat}{tn:aS}(h:Dh q j tn){x:vx}(D:q[j]? =some x):Dh q (j+1) (tn.set j ((vR x).set 2 (eB false))):=by
 refine⟨by rw[VA];exact h.1,λ i y A=>?_⟩;have G:j<tn.length:=by rw[h.1];exact(mR.1 D).1
 rw[If];by_cases e:j=i;.subst e;rw[D]at A;cases A;rw[ao rfl,ao G,ao (iW _)];rfl
 rw[aj e,h.2 i y A];by_cases F:i<j;.rw[ao F,ao (by omega)]
 rw[aj F,aj (by omega)]
def qe{v:α}{T:List (Nat×α)}:lk ((i,v)::T) k=if i=k then some v else lk T k:=rfl
abbrev OM(a b c d e:ae)(tn te:aS):bI:=[(1,[a,b,c,d,e]),(2,[.sl [] (some 4),.sl [] (some 7)]),(4,[.sl [] (some 5),.sl [] (some 3)]),(6,[.sl tn none,.sl te none])]
def ρ4(A y q h:Nat):Bx:=λ d k=>if d=0 then(if k=1 then some A else if k=2 then some y else if k=4 then some q else if k=6 then some h else none)else none
def ok4{H:ah}(g:Good H)(ad:kJ ng gl (AN I))(hI:cu I H.objs.get){F D A q:Nat}{c1 c2 c3 c4 c5 d1 d2:aa}{a1 a2 a3 a4 L tn:aS}
 (o1:jh H F ⟨[c1,c2,c3,c4,c5],F,0,true,false,1⟩) (o2:jh H D (qA D .ai .ai)) (o4:jh H A (qA A .ai .ai)) (o6:jh H q (qA q d1 d2))
 (m1:H.aG.get F=some [F]) (m2:H.aG.get D=some [D]) (m4:H.aG.get A=some [A]) (m6:H.aG.get q=some [q])
 (n1:I F=none) (n2:I D=none) (n4:I A=none) (n6:I q=none) (aq:F≠D) (ap:F≠A) (an:F≠q) (am:D≠A) (al:D≠q) (ak:A≠q)
 (r1:RP I (.sl a1 none) c1) (r2:RP I (.sl a2 none) c2) (r3:RP I (.sl a3 none) c3) (r4:RP I (.sl a4 none) c4) (r5:RP I (.sl L none) c5) (q1:RP I (.sl tn none) d1) (q2:RP I (.sl te none) d2)
 {T':Tr aa} (t1:aw T' 1=.ptr F 0) (t2:aw T' 2=.ptr D 0) (t4:aw T' 4=.ptr A 0) (t6:aw T' 6=.ptr q 0):
 Ok ng gl 0 ⟨ρ4 F D A q,I,λ _=>none,λ _=>0⟩ [(1,.ptr 0 1 0),(2,.ptr 0 2 0),(4,.ptr 0 4 0),(6,.ptr 0 6 0)] T' (aH (OM (.sl a1 none) (.sl a2 none) (.sl a3 none) (.sl a4 none) (.sl L none) tn te) []) H:=by
 have get:∀d k cs,bE (aH (OM (.sl a1 none) (.sl a2 none) (.sl a3 none) (.sl a4 none) (.sl L none) tn te) []) d k=some cs->d=0/\((k=1/\cs=[.sl a1 none,.sl a2 none,.sl a3 none,.sl a4 none,.sl L none])\/(k=2/\cs=[.sl [] (some 4),.sl [] (some 7)])\/(k=4/\cs=[.sl [] (some 5),.sl [] (some 3)])\/(k=6/\cs=[.sl tn none,.sl te none])):=by
  intro d k cs h;have h:(if d=0 then lk (OM (.sl a1 none) (.sl a2 none) (.sl a3 none) (.sl a4 none) (.sl L none) tn te) k else b7 [] d k)=some cs:=h;by_cases J:d=0
  .rw[ao J]at h;refine⟨J,?_⟩;rw[qe]at h;by_cases e:1=k;.rw[ao e]at h;exact .inl ⟨e.symm,(dU h).symm⟩
   rw[aj e,qe]at h;by_cases e:2=k;.rw[ao e]at h;exact .inr (.inl ⟨e.symm,(dU h).symm⟩)
   rw[aj e,qe]at h;by_cases e:4=k;.rw[ao e]at h;exact .inr (.inr (.inl ⟨e.symm,(dU h).symm⟩))
   rw[aj e,qe]at h;by_cases e:6=k;.rw[ao e]at h;exact .inr (.inr (.inr ⟨e.symm,(dU h).symm⟩))
   rw[aj e]at h;cases h
  rw[aj J]at h;have:b7 [] d k=none:=rfl;rw[this]at h;cases h
 have sl:∀{es:aS} {o:Option Nat} {b:aa},RP I (.sl es none) b->aA (cut (0+1) (ρ4 F D A q)) I (.sl es o) b:=λ h=>by simpa only[aA]using h
 have nl:∀{o:Option Nat},aA (cut (0+1) (ρ4 F D A q)) I (.sl [] o) .ai:=λ {o}=>by simp[aA,RP]
 have no:∀{G:Gh} {s:Nat->bX} {l:List aS} {xs:List aa},mw G s (l.map λ es=>ae.sl es none) xs:=λ {G s l xs} j es sz a e _=>by
  rw[bM]at e;cases hl:l[j]?;.rw[hl]at e;cases e
  rename_i x;rw[hl]at e;cases e
 have nn:∀{G:Gh} {s:Nat->bX} {x y:Nat},mw G s [.sl [] (some x),.sl [] (some y)] [.ai,.ai]:=λ {G s x y} j es sz a e e2=>by
  match j with
  |0=>cases e;cases e2;exact .inl ⟨rfl,rfl⟩
  |1=>cases e;cases e2;exact .inl ⟨rfl,rfl⟩
  |j+2=>cases e
 refine⟨⟨g,hI,λ d k cs Z=>?_,λ d k d' k' cs ag u Z Y e e'=>?_,λ f s e=>(by cases e),λ d k u e=>?_⟩,λ i v e=>?_,rfl,ad⟩
 .have M:=get d k cs Z;clear Z;obtain⟨J,h⟩:=M;subst J;rcases h with⟨rfl,rfl⟩|⟨rfl,rfl⟩|⟨rfl,rfl⟩|⟨rfl,rfl⟩
  .exact⟨F,_,⟨rfl,o1.row,rfl,rfl,rfl,m1,n1,rfl,cf.2 ⟨_,_,rfl,sl r1,cf.2 ⟨_,_,rfl,sl r2,cf.2 ⟨_,_,rfl,sl r3,cf.2 ⟨_,_,rfl,sl r4,cf.2 ⟨_,_,rfl,sl r5,by simp only[bB]⟩⟩⟩⟩⟩,rfl,no (l:=[a1,a2,a3,a4,L])⟩⟩
  .exact⟨D,_,⟨rfl,o2.row,rfl,rfl,rfl,m2,n2,rfl,cf.2 ⟨_,_,rfl,nl,cf.2 ⟨_,_,rfl,nl,by simp only[bB]⟩⟩,rfl,nn⟩⟩
  .exact⟨A,_,⟨rfl,o4.row,rfl,rfl,rfl,m4,n4,rfl,cf.2 ⟨_,_,rfl,nl,cf.2 ⟨_,_,rfl,nl,by simp only[bB]⟩⟩,rfl,nn⟩⟩
  exact⟨q,_,⟨rfl,o6.row,rfl,rfl,rfl,m6,n6,rfl,cf.2 ⟨_,_,rfl,sl q1,cf.2 ⟨_,_,rfl,sl q2,by simp only[bB]⟩⟩,rfl,no (l:=[tn,te])⟩⟩
 .have M:=get d k cs Z;have ab:=get d' k' ag Y;clear Z Y;obtain⟨J,h⟩:=M;obtain⟨af,h'⟩:=ab;subst J af;refine⟨rfl,?_⟩;have e1:∀{x:Nat},ρ4 F D A q 0 x=some u->x=1\/x=2\/x=4\/x=6->(x=1/\u=F)\/(x=2/\u=D)\/(x=4/\u=A)\/(x=6/\u=q):=by intro x h M;rcases M with rfl|rfl|rfl|rfl<;>(simp[ρ4]at h;simp[h])
  have hk:=e1 e (by rcases h with h|h|h|h<;>simp[h.1]);have ac:=e1 e' (by rcases h' with h|h|h|h<;>simp[h.1]);rcases hk with⟨rfl,rfl⟩|⟨rfl,rfl⟩|⟨rfl,rfl⟩|⟨rfl,rfl⟩<;>rcases ac with⟨rfl,h⟩|⟨rfl,h⟩|⟨rfl,h⟩|⟨rfl,h⟩<;>first|rfl|(subst h;simp_all)|(exact absurd h (by assumption))|(exact absurd h.symm (by assumption))
 .have e:ρ4 F D A q d k=some u:=e;unfold ρ4 at e;have w1:=(g.wf _ _ o1.row).1;have w2:=(g.wf _ _ o2.row).1;have w4:=(g.wf _ _ o4.row).1;have w6:=(g.wf _ _ o6.row).1;split at e
  .split at e;.cases e;exact w1
   split at e;.cases e;exact w2
   split at e;.cases e;exact w4
   split at e;.cases e;exact w6
   cases e
  cases e
 .have pt:∀{k u:Nat},ρ4 F D A q 0 k=some u->aA (cut (0+1) (ρ4 F D A q)) I (.ptr 0 k 0) (.ptr u 0):=λ h=>by simp only[aA,cut];exact⟨_,by rw[ao (by decide)];exact h,rfl⟩
  have po:∀{G:Gh} {s:Nat->bX} {k:Nat} {xs:List aa},mw G s (ae.ptr 0 k 0).cells xs:=λ {G s k xs} j es sz a e _=>by
   match j with
   |0=>cases e
   |j+1=>cases e
  rw[qe]at e;by_cases h:1=i;.rw[ao h]at e;obtain rfl:=(dU e);subst h;rw[t1];exact⟨pt rfl,po⟩
  rw[aj h,qe]at e;by_cases h:2=i;.rw[ao h]at e;obtain rfl:=(dU e);subst h;rw[t2];exact⟨pt rfl,po⟩
  rw[aj h,qe]at e;by_cases h:4=i;.rw[ao h]at e;obtain rfl:=(dU e);subst h;rw[t4];exact⟨pt rfl,po⟩
  rw[aj h,qe]at e;by_cases h:6=i;.rw[ao h]at e;obtain rfl:=(dU e);subst h;rw[t6];exact⟨pt rfl,po⟩
  rw[aj h]at e;cases e
end
section
open Go.Proofs
variable{S:List bI}{l:List Int}
variable{gl:aM}{base:eH}
def Mj{x:Int}:∀{i:Nat},∃z,lg (λ y=>some (decide (y=x))) i l=some z/\ -1<=z/\z<i+l.length/\(x∈l->0<=z):=by
 induction l with
 |nil=>intro i;exact⟨-1,rfl,by omega,by simp only[dG];omega,λ h=>by cases h⟩
 |cons y l A=>
  intro i;simp only[lg];by_cases h:y=x;.simp only[dV h];exact⟨i,rfl,by omega,by simp only[cD];omega,λ _=>by omega⟩
  simp only[cX h];obtain⟨z,G,F,h3,D⟩:=A (i:=i+1);refine⟨z,G,F,by simp only[cD];omega,λ q=>?_⟩;rcases ck.1 q with e|q
  .exact absurd e.symm h
  exact D q
def w26{x:Int}(M:l.length<=1000000){z:Int}(h:lg (λ y=>some (decide (y=x))) 0 l=some z):VW gl base 26 [aD l,eI x] S=some (eI z,S,false):=by
 refine iU (S':=[]) (w:=false) m26 rfl rfl ?_
 have L:=tP (P:=af) (gl:=gl) (Z7:=VW gl base) (n:=19) (len:=l.length) (C:=Fe) (B:=CT) (f:=lL (λ y=>some (decide (y=x))) (λ i=>(.ret,[(4,eI i)],(aH [] []))) l)
  (TT:=λ i _=>[(0,aD l),(1,eI x),(5,eI i)]) (ST:=λ _=>(aH [] []))
  (X:=λ _=>(.exit 0,[(0,aD l),(1,eI x),(5,eI l.length),(9,eB false)],(aH [] []))) ?_ ?_ ?_ l.length 0 ()
 .have D:=xe (R:=λ i=>(.ret,[(4,eI i)],(aH [] []))) l.length 0 z (by omega) h;rcases D with⟨rfl,D⟩|⟨j,rfl,D⟩
  .have q:aJ af gl (VW gl base) 19 Fe [(0,aD l),(1,eI x),(5,eI 0)] (aH [] [])=_:=L _ (by omega) D;simp+decide only[bz,Rv,VB,lk,aB,↓reduceIte,Nat.reduceBEq,Nat.reduceAdd,QP,PK,QY,aF,q]
  have q:aJ af gl (VW gl base) 19 Fe [(0,aD l),(1,eI x),(5,eI 0)] (aH [] [])=_:=L _ (by omega) D;simp+decide only[bz,Rv,VB,lk,aB,↓reduceIte,Nat.reduceBEq,Nat.reduceAdd,QP,PK,QY,aF,q]
 .intro i s;rw[axv];simp+decide only[VB,lk,aB,↓reduceIte,Nat.reduceBEq,Nat.reduceAdd]
 .intro i s hi;have A:((i:Int)<(l.length:Int))=True:=dw (by omega);have G:l[i]? =some l[i]:=cW hi;have J:(l.map λ n=>[eI n])[i]? =some [eI l[i]]:=by rw[bM,G];rfl
  simp only[lL,G];by_cases F:l[i]=x;.simp only[dV F];refine⟨?_,λ h=>by cases h⟩;simp+decide only[CT,VB,lk,aB,↓reduceIte,Nat.reduceBEq,Nat.reduceAdd,JE,UW,Sr,QR,A,aY J,aF,dV F]
  simp only[cX F];simp+decide only[CT,VB,lk,aB,↓reduceIte,Nat.reduceBEq,Nat.reduceAdd,JE,UW,Sr,QR,A,aY J,aF,gW (show i<=4611686018427387904 by omega),cX F]
 intro s;refine⟨?_,λ h=>by cases h⟩;simp+decide only[CT,VB,lk,aB,↓reduceIte,Nat.reduceBEq,Nat.reduceAdd,JE,aF,jT]
def q25:cy af 25=true:=by kernel_rfl
def q26:cy af 26=true:=by kernel_rfl
abbrev qK(a b:List Int):ae:=.agg [aD a,aD b]
abbrev zk(gN:List Int)(gE:List Ed)(pN pE:List Int)(s:List Int)(t:List Ed):bI:=[(2,[aD gN,dY gE]),(3,[aD pN,aD pE]),(4,[.sl [] (some 1),.sl [] (some 3)]),(5,[.sl [] (some 1),.sl [] (some 1)]),(8,[fk s,wy t])]
def yC(gN:List Int)(x:Int)(s:List Int):Option (List Int⊕bZ):=if s.length<=1000 then(match df gN x with|some v=>some (.inl (s++[v]))|none=>none)else none
def afg:∀{pN s:List Int},s.length+pN.length<=1000->(∀x∈pN,∃v,df gN x=some v)->∃r,bP (yC gN) pN s=some (.inl (s++r))/\r.length=pN.length/\∀v∈r,v∈gN
 |[],s,_,_=>⟨[],by simp[bP],rfl,λ v h=>(by cases h)⟩
 |x::l,s,D,h=>by
  obtain⟨v,q⟩:=h x cS;simp only[cD]at D;obtain⟨r,G,F,h3⟩:=afg (pN:=l) (s:=s++[v]) (by simp;omega) λ y A=>h y (cz _ A)
  refine⟨v::r,?_,by simp[F],λ w hw=>?_⟩;.simp only[bP,yC,ao (show s.length<=1000 by omega),q];rw[G];simp
  rcases ck.1 hw with rfl|hw
  .exact ni q
  exact h3 w hw
def atC{r:List Int}(Y:pN.length<=1000)(h:bP (yC gN) pN []=some (.inl r)):
 aJ af gl (VW gl base) 85 G5 [(2,.ptr 0 2 0),(3,.ptr 0 3 0),(4,.ptr 0 4 0),(5,.ptr 0 5 0),(8,.ptr 0 8 0),(9,eI 0)] (aH (zk gN gE pN pE [] []) [])=some (.exit 0,[(2,.ptr 0 2 0),(3,.ptr 0 3 0),(4,.ptr 0 4 0),(5,.ptr 0 5 0),(8,.ptr 0 8 0),(9,eI pN.length),(24,eB false)],(aH (zk gN gE pN pE r []) [])):=by
 have M:=pg (P:=af) (gl:=gl) (Z7:=VW gl base) (n:=85) (l:=pN) (C:=G5) (B:=HP) (f:=yC gN)
  (TT:=λ i _=>[(2,.ptr 0 2 0),(3,.ptr 0 3 0),(4,.ptr 0 4 0),(5,.ptr 0 5 0),(8,.ptr 0 8 0),(9,eI i)]) (ST:=λ s=>(aH (zk gN gE pN pE s []) []))
  (X:=λ s=>(.exit 0,[(2,.ptr 0 2 0),(3,.ptr 0 3 0),(4,.ptr 0 4 0),(5,.ptr 0 5 0),(8,.ptr 0 8 0),(9,eI pN.length),(24,eB false)],(aH (zk gN gE pN pE s []) []))) ?_ ?_ ?_ [] _ h
 .exact M
 .intro i s;rw[arH];simp+decide only[VB,lk,aB,↓reduceIte,Nat.reduceBEq,Nat.reduceAdd]
 .intro i s x hi G;have A:((i:Int)<(pN.length:Int))=True:=dw (by omega);have L:(pN.map λ n=>[eI n])[i]? =some [eI x]:=by rw[bM,G];rfl
  by_cases y:s.length<=1000
  .cases q:df gN x;.simp only[yC,ao y,q]
   rename_i v;obtain⟨j,J,D⟩:=jU q;have F:(gN.map λ n=>[eI n])[j]? =some [eI v]:=by rw[bM,D];rfl
   subst J;simp only[yC,ao y,q];simp+decide only[HP,VB,lk,aB,↓reduceIte,Nat.reduceBEq,Nat.reduceAdd,PD,ZV,WE,A,aY L,aY F,aF,fD,Iu (show s.length<=100000 by omega),gW (show i<=4611686018427387904 by omega),je,cm,dh,dC,dW,cM]
  simp only[yC,aj y]
 .intro s;refine⟨?_,λ h=>by cases h⟩;simp+decide only[HP,VB,lk,aB,↓reduceIte,Nat.reduceBEq,Nat.reduceAdd,PD,aF,jT]
def yu(gE:List Ed)(pN:List Int)(x:Int)(t:List Ed):Option (List Ed⊕bZ):=if t.length<=1000 then(match df gE x with
 |some e=>(match lg (λ y=>some (decide (y=e.fr))) 0 pN,lg (λ y=>some (decide (y=e.to))) 0 pN with
  |some a,some b=>some (.inl (t++[⟨e.ty,a,b⟩]))
  |_,_=>none)
 |none=>none)else none
def asP(gE:List Ed)(pN:List Int)(y:Ed):Prop:=∃e∈gE,y.ty=e.ty/\(e.fr∈pN->0<=y.fr)/\ -1<=y.fr/\y.fr<pN.length/\(e.to∈pN->0<=y.to)/\ -1<=y.to/\y.to<pN.length
def ae6{gE:List Ed}{pN:List Int}:∀{pE:List Int} {t:List Ed},t.length+pE.length<=1000->(∀x∈pE,∃v,df gE x=some v)->∃r,bP (yu gE pN) pE t=some (.inl (t++r))/\r.length=pE.length/\∀v∈r,asP gE pN v
 |[],s,_,_=>⟨[],by simp[bP],rfl,λ v h=>(by cases h)⟩
 |x::l,s,D,h=>by
  obtain⟨v,q⟩:=h x cS;obtain⟨a,a1,a2,a3,a4⟩:=Mj (l:=pN) (x:=v.fr) (i:=0);obtain⟨b,b1,b2,b3,b4⟩:=Mj (l:=pN) (x:=v.to) (i:=0);simp only[cD]at D;obtain⟨r,G,F,h3⟩:=ae6 (gE:=gE) (pN:=pN) (pE:=l) (t:=s++[⟨v.ty,a,b⟩]) (by simp;omega) λ y A=>h y (cz _ A)
  refine⟨⟨v.ty,a,b⟩::r,?_,by simp[F],λ w hw=>?_⟩;.simp only[bP,yu,ao (show s.length<=1000 by omega),q,a1,b1];rw[G];simp
  rcases ck.1 hw with rfl|hw
  .exact⟨v,ni q,rfl,a4,a2,by simpa using a3,b4,b2,by simpa using b3⟩
  exact h3 w hw
def arV{s:List Int}{r:List Ed}(h0:pN.length<=1000)(h1:pE.length<=1000)(h:bP (yu gE pN) pE []=some (.inl r)):
 aJ af gl (VW gl base) 85 FB [(2,.ptr 0 2 0),(3,.ptr 0 3 0),(4,.ptr 0 4 0),(5,.ptr 0 5 0),(8,.ptr 0 8 0),(10,eI 0)] (aH (zk gN gE pN pE s []) [])=some (.exit 2,[(2,.ptr 0 2 0),(3,.ptr 0 3 0),(4,.ptr 0 4 0),(5,.ptr 0 5 0),(8,.ptr 0 8 0),(10,eI pE.length),(45,eB false)],(aH (zk gN gE pN pE s r) [])):=by
 have Y:=pg (P:=af) (gl:=gl) (Z7:=VW gl base) (n:=85) (l:=pE) (C:=FB) (B:=EB) (f:=yu gE pN)
  (TT:=λ i _=>[(2,.ptr 0 2 0),(3,.ptr 0 3 0),(4,.ptr 0 4 0),(5,.ptr 0 5 0),(8,.ptr 0 8 0),(10,eI i)]) (ST:=λ t=>(aH (zk gN gE pN pE s t) []))
  (X:=λ t=>(.exit 2,[(2,.ptr 0 2 0),(3,.ptr 0 3 0),(4,.ptr 0 4 0),(5,.ptr 0 5 0),(8,.ptr 0 8 0),(10,eI pE.length),(45,eB false)],(aH (zk gN gE pN pE s t) []))) ?_ ?_ ?_ [] _ h
 .exact Y
 .intro i s;rw[aoj];simp+decide only[VB,lk,aB,↓reduceIte,Nat.reduceBEq,Nat.reduceAdd]
 .intro i t x hi J;have A:((i:Int)<(pE.length:Int))=True:=dw (by omega);have M:(pE.map λ n=>[eI n])[i]? =some [eI x]:=by rw[bM,J];rfl
  by_cases y:t.length<=1000
  .cases q:df gE x;.simp only[yu,ao y,q]
   rename_i v;obtain⟨j,L,D⟩:=jU q;have F:(gE.map Ed.c)[j]? =some v.c:=by rw[bM,D];rfl
   subst L;obtain⟨a,a1,_⟩:=Mj (l:=pN) (x:=v.fr) (i:=0);obtain⟨b,b1,_⟩:=Mj (l:=pN) (x:=v.to) (i:=0);have c1:∀S,VW gl base 26 [aD pN,eI v.fr] S=some (eI a,S,false):=λ S=>w26 (by omega) a1
   have Z:∀S,VW gl base 26 [aD pN,eI v.to] S=some (eI b,S,false):=λ S=>w26 (by omega) b1
   have G:∀st,iG st 3 (wy t) (.sl [[eI v.ty,eI a,eI b]] (some 3))=some (wy (t++[⟨v.ty,a,b⟩])):=λ st=>ab1 (x:=⟨v.ty,a,b⟩) (by omega) st
   simp only[yu,ao y,q,a1,b1];simp+decide only[EB,VB,lk,aB,↓reduceIte,Nat.reduceBEq,Nat.reduceAdd,fD,fM,fO,ft,fo,eM,cm,dh,dC,dW,cM,je,aF,QO,W7,Y9,Za,A,aY M,aY F,Ed.c,aI q26,c1,Z,G,gW (show i<=4611686018427387904 by omega)]
  simp only[yu,aj y]
 .intro s;refine⟨?_,λ h=>by cases h⟩;simp+decide only[EB,VB,lk,aB,↓reduceIte,Nat.reduceBEq,Nat.reduceAdd,QO,aF,jT]
def auv{ev:Int}(h:∀S,VW gl base 25 [.agg [aD gN,dY gE],qK pN pE] S=some (eI ev,S,false))(q:ev≠0):
 VW gl base 10 [.agg [aD gN,dY gE],qK pN pE] S=some (.aL [.agg [aD [],dY []],qK [] [],eI ev],S,false):=by
 refine iU (S':=[]) (w:=false) Jg rfl rfl ?_;simp+decide only[bz,Sa,VB,lk,aB,↓reduceIte,Nat.reduceBEq,Nat.reduceAdd,fD,fM,fO,ft,fo,eM,cm,dh,dC,dW,cM,je,aF,S8,U7,Sg,WS,aI q25,h,cX q];rfl
def ao5{z:List ae}:mM sz (List.replicate 0 z) []=some []:=rfl
def acS:∀{l:List Int},fR 1 (l.map λ n=>[eI n])=true
 |[]=>rfl
 |a::l=>acS (l:=l)
def ahO(h:l.length<=100000):∀st,iG st 1 (.sl [] (some 1)) (.sl (l.map λ n=>[eI n]) none)=some (fk l):=λ st=>by rw[lZ (by simp only[dG,aF];omega) acS,jS]
def avp{gN:List Int}{gE:List Ed}{pE rN:List Int}{rE:List Ed}(h:pN.length<=1000)(G:pE.length<=1000)(q:∀S,VW gl base 25 [.agg [aD gN,dY gE],qK pN pE] S=some (eI 0,S,false))
 (y:bP (yC gN) pN []=some (.inl rN)) (A:bP (yu gE pN) pE []=some (.inl rE)):
 VW gl base 10 [.agg [aD gN,dY gE],qK pN pE] S=some (.aL [.agg [aD rN,dY rE],qK pN pE,eI 0],S,false):=by
 refine iU (S':=[]) (w:=false) Jg rfl rfl ?_;have D:aJ af gl (VW gl base) 85 G5 [(2,.ptr 0 2 0),(3,.ptr 0 3 0),(4,.ptr 0 4 0),(5,.ptr 0 5 0),(8,.ptr 0 8 0),(9,eI 0)] (aH [(2,[aD gN,dY gE]),(3,[aD pN,aD pE]),(4,[.sl [] (some 1),.sl [] (some 3)]),(5,[.sl [] (some 1),.sl [] (some 1)]),(8,[.sl [] (some 1),.sl [] (some 3)])] [])=_:=atC (gE:=gE) (pE:=pE) h y;have F:aJ af gl (VW gl base) 85 FB [(2,.ptr 0 2 0),(3,.ptr 0 3 0),(4,.ptr 0 4 0),(5,.ptr 0 5 0),(8,.ptr 0 8 0),(10,eI 0)] (aH [(2,[aD gN,dY gE]),(3,[aD pN,aD pE]),(4,[.sl [] (some 1),.sl [] (some 3)]),(5,[.sl [] (some 1),.sl [] (some 1)]),(8,[fk rN,wy []])] [])=_:=arV (gN:=gN) (s:=rN) h G A;simp+decide only[bz,Sa,VB,lk,aB,↓reduceIte,Nat.reduceBEq,Nat.reduceAdd,fD,fM,fO,ft,fo,eM,cm,dh,dC,dW,cM,je,aF,S8,U7,Sg,af7,aha,abx,aa6,aI q25,q,D,F,ao5,ahO (show pN.length<=100000 by omega),ahO (show pE.length<=100000 by omega)];rfl
def Xc:∀(k i:Nat) (o:List Int),fF i (List.replicate k true) o=o++(List.range k).map λ j=>((i+j:Nat):Int)
 |0,i,o=>by simp[fF]
 |k+1,i,o=>by
  rw[Nv];simp only[fF];rw[ao trivial,Xc k (i+1),List.range_succ_eq_map,fL,ko,vH]
  congr 1
  show(i:Int)::_=((i+0:Nat):Int)::_
  congr 1
  apply kX;intro j _;show((i+1+j:Nat):Int)=((i+(j+1):Nat):Int)
  congr 1;omega
def nW(n:Nat):List Int:=fF 0 (List.replicate n true) []
def agD(n:Nat):nW n=(List.range n).map (λ j:Nat=>(j:Int)):=by unfold nW;rw[Xc];simp
def ahl(n:Nat):(nW n).length=n:=by rw[agD];simp
def FQ{x:Int}:x∈nW n↔0<=x/\x<n:=by
 rw[agD,eK];constructor
 .rintro⟨j,h,rfl⟩
  rw[zD]at h;omega
 rintro⟨y,q⟩
 exact⟨x.toNat,zD.2 (by omega),by omega⟩
def abV{l:List α}{x:Int}(h:0<=x)(q:x<l.length):∃v,df l x=some v:=by unfold df;rw[ao h];exact⟨_,cW (by omega)⟩
def w10{gN:List Int}{gE:List Ed}{pE:List Int}(h1:gN.length<=1000)(h2:pE.length<=1000)(F:∀x∈pE,0<=x/\x<gE.length)(hE:∀e∈gE,(0<=e.fr/\e.fr<gN.length)/\(0<=e.to/\e.to<gN.length))
 {ev:Int} (D:∀S,VW gl base 25 [.agg [aD gN,dY gE],qK (nW gN.length) pE] S=some (eI ev,S,false)):
 ∃rN rE a b,(∀S,VW gl base 10 [.agg [aD gN,dY gE],qK (nW gN.length) pE] S=some (.aL [.agg [aD rN,dY rE],qK a b,eI ev],S,false))/\rN.length<=gN.length/\(∀v∈rN,v∈gN)/\rE.length<=pE.length/\∀y∈rE,(∃e∈gE,y.ty=e.ty)/\(0<=y.fr/\y.fr<rN.length)/\(0<=y.to/\y.to<rN.length):=by
 by_cases J:ev=0
 .subst J;have G:=ahl gN.length;obtain⟨rN,n1,n2,n3⟩:=afg (gN:=gN) (pN:=nW gN.length) (s:=[]) (by simp only[dG];omega) λ x q=>by obtain⟨Y,M⟩:=FQ.1 q;exact abV Y M
  obtain⟨rE,L,e2,e3⟩:=ae6 (gE:=gE) (pN:=nW gN.length) (pE:=pE) (t:=[]) (by simp only[dG];omega) λ x q=>abV (F x q).1 (F x q).2
  rw[jS]at n1 L;refine⟨rN,rE,nW gN.length,pE,λ S=>avp (by omega) h2 D n1 L,by omega,n3,by omega,λ y hy=>?_⟩;obtain⟨e,A,m2,m3,m4,m5,m6,m7,m8⟩:=e3 y hy;obtain⟨⟨p1,p2⟩,p3,Z⟩:=hE e A;exact⟨⟨e,A,m2⟩,⟨m3 (FQ.2 ⟨p1,p2⟩),by omega⟩,m6 (FQ.2 ⟨p3,Z⟩),by omega⟩
 .exact⟨[],[],[],[],λ S=>auv D J,iB _,λ v h=>(by cases h),iB _,λ y h=>(by cases h)⟩
end
section
open Go.Proofs
variable{gl:aM}{base:eH}
def Aq(R:bZ)(x:Oc)(_:Unit):Option (Unit⊕bZ):=if x.no.length<=1000/\x.ed.length<=1000 then some (if((x.no.length:Int)+x.ed.length)>20 then .inr R else .inl ())else none
def ag8{R:bZ}:∀{l:List Oc},(∀x∈l,x.no.length<=1000/\x.ed.length<=1000)->bP (Aq R) l ()=some (.inl ())\/bP (Aq R) l ()=some (.inr R)
 |[],_=>.inl rfl
 |x::l,h=>by
  simp only[bP,Aq,ao (h x cS)];split
  .rename_i q;split at q;.cases q
   cases q;exact ag8 λ y A=>h y (cz _ A)
  .rename_i q;split at q;.cases q;exact .inr rfl
   cases q
  rename_i q;cases q
def apT{E:List El}(hV:V.length<=14)(hE:E.length<=200)(h:∀x∈V,x.no.length<=1000/\x.ed.length<=1000):∃b,∀S,VW gl base 15 [o9 E V] S=some (eB b,S,false):=by
 have hL:=pg (P:=af) (gl:=gl) (Z7:=VW gl base) (n:=55) (l:=V) (C:=Fu) (B:=DP) (f:=Aq (.ret,[(2,eB false)],(aH [] [])))
  (TT:=λ i _=>[(1,.ptr 0 1 0),(4,eI V.length),(5,eI i)]) (ST:=λ _=>(aH [(1,[.sl (E.map El.c) none,.sl (V.map Oc.c) none])] []))
  (X:=λ _=>(.exit 0,[(1,.ptr 0 1 0),(4,eI V.length),(5,eI V.length),(36,eB false)],(aH [(1,[.sl (E.map El.c) none,.sl (V.map Oc.c) none])] []))) ?_ ?_ ?_ ()
 .have Y:decide ((E.length:Int)>260)=false:=cX (by omega);have M:decide ((V.length:Int)>14)=false:=cX (by omega);have L:decide ((V.length:Int)>40)=false:=cX (by omega);have J:decide ((E.length:Int)<=200)=true:=dV (by omega);by_cases y:(E.length:Int)>70;.refine⟨false,λ S=>iU (S':=[]) (w:=false) Q5 rfl rfl ?_⟩;simp+decide only[bz,JP,VB,lk,aB,↓reduceIte,Nat.reduceBEq,Nat.reduceAdd,fD,fM,fO,ft,fo,eM,cm,dh,dC,dW,cM,je,aF,LH,MY,MA,afn,dV y,Y,M,L,J]
  rcases ag8 (R:=(.ret,[(2,eB false)],(aH [] []))) h with F|F
  .have q:aJ af gl (VW gl base) 55 Fu [(1,.ptr 0 1 0),(4,eI V.length),(5,eI 0)] (aH [(1,[.sl (E.map El.c) none,.sl (V.map Oc.c) none])] [])=_:=hL _ F;refine⟨true,λ S=>iU (S':=[]) (w:=false) Q5 rfl rfl ?_⟩;simp+decide only[bz,JP,VB,lk,aB,↓reduceIte,Nat.reduceBEq,Nat.reduceAdd,fD,fM,fO,ft,fo,eM,cm,dh,dC,dW,cM,je,aF,LH,MY,MA,QK,Q9,cX y,Y,M,L,J,q]
  have q:aJ af gl (VW gl base) 55 Fu [(1,.ptr 0 1 0),(4,eI V.length),(5,eI 0)] (aH [(1,[.sl (E.map El.c) none,.sl (V.map Oc.c) none])] [])=_:=hL _ F;refine⟨false,λ S=>iU (S':=[]) (w:=false) Q5 rfl rfl ?_⟩;simp+decide only[bz,JP,VB,lk,aB,↓reduceIte,Nat.reduceBEq,Nat.reduceAdd,fD,fM,fO,ft,fo,eM,cm,dh,dC,dW,cM,je,aF,LH,MY,MA,QK,Q9,cX y,Y,M,L,J,q]
 .intro i s;rw[aAR];simp+decide only[VB,lk,aB,↓reduceIte,Nat.reduceBEq,Nat.reduceAdd]
 .intro i s x hi hx;have A:((i:Int)<(V.length:Int))=True:=dw (by omega);have he:(V.map Oc.c)[i]? =some x.c:=by rw[bM,hx];rfl
  by_cases G:x.no.length<=1000/\x.ed.length<=1000
  .have Z:iO ((x.no.length:Int)+x.ed.length):=by unfold iO;omega
   by_cases D:((x.no.length:Int)+x.ed.length)>20;.simp only[Aq,ao G,ao D];refine⟨?_,λ h=>by cases h⟩;simp+decide only[DP,VB,lk,aB,↓reduceIte,Nat.reduceBEq,Nat.reduceAdd,fD,fM,fO,ft,fo,eM,cm,dh,dC,dW,cM,je,aF,I4,Sv,R1,Sq,A,aY he,Oc.c,Fg Z,dV D]
   simp only[Aq,ao G,aj D];simp+decide only[DP,VB,lk,aB,↓reduceIte,Nat.reduceBEq,Nat.reduceAdd,fD,fM,fO,ft,fo,eM,cm,dh,dC,dW,cM,je,aF,I4,Sv,R1,Sq,A,aY he,Oc.c,Fg Z,cX D,gW (show i<=4611686018427387904 by omega)]
  simp only[Aq,aj G]
 intro s;refine⟨?_,λ h=>by cases h⟩;simp+decide only[DP,VB,lk,aB,↓reduceIte,Nat.reduceBEq,Nat.reduceAdd,fD,fM,fO,ft,fo,eM,cm,dh,dC,dW,cM,je,aF,I4,jT]
end
section
open Go.Proofs
variable{a b:Nat}{d fl g:Int}
variable{gl:aM}
def af6(n:Int)(e:List ae):Prop:=∃s f t h q y A,e=[.sc (.str s),eI f,eI t,eI h,eI q,eI y,eI A]/\s∈gX/\(0<=f/\f<=n- 1)/\(0<=t/\t<=n- 1)/\(-1<=h/\h<=40)/\(-1<=q/\q<=40)/\(-1<=y/\y<=40)/\(-1<=A/\A<=40)
def anZ{n:Int}(h:af6 n e):dX bQ 5 [n] j e:=by
 obtain⟨s,f,t,q,y,A,D,rfl,G,Z,h3,Y,M,L,J⟩:=h;refine vB (nm:=5) (d:=⟨10,1,[.ss 3,.int .i64 4 0,.int .i64 5 0,.int .i64 6 0,.int .i64 7 0,.int .i64 8 0,.int .i64 9 0],[.str 3 gX,.le 0 4 0,.le 4 1 (-1),.le 0 5 0,.le 5 1 (-1),.le 0 6 1,.le 6 0 40,.le 0 7 1,.le 7 0 40,.le 0 8 1,.le 8 0 40,.le 0 9 1,.le 9 0 40]⟩) rfl rfl (env:=[SV.z,⟨n,false,[],[]⟩,⟨j,false,[],[]⟩,⟨0,false,s,[]⟩,⟨f,false,[],[]⟩,⟨t,false,[],[]⟩,⟨q,false,[],[]⟩,⟨y,false,[],[]⟩,⟨A,false,[],[]⟩,⟨D,false,[],[]⟩]) rfl (be _) ?_ ?_ rfl;.show _=[ae.sc (.str s),.sc (.int .i64 (f+0)),.sc (.int .i64 (t+0)),.sc (.int .i64 (q+0)),.sc (.int .i64 (y+0)),.sc (.int .i64 (A+0)),.sc (.int .i64 (D+0))];simp only[iY]
 intro x F;simp only[ck,lB,l7]at F;rcases F with rfl|rfl|rfl|rfl|rfl|rfl|rfl|rfl|rfl|rfl|rfl|rfl|rfl
 .exact G
 .show(0:Int)<=f+0;omega
 .show f<=n+ -1;omega
 .show(0:Int)<=t+0;omega
 .show t<=n+ -1;omega
 .show(0:Int)<=q+1;omega
 .show q<=(0:Int)+40;omega
 .show(0:Int)<=y+1;omega
 .show y<=(0:Int)+40;omega
 .show(0:Int)<=A+1;omega
 .show A<=(0:Int)+40;omega
 .show(0:Int)<=D+1;omega
 show D<=(0:Int)+40;omega
structure sh (tn te:aS):Prop where
 n1:1<=tn.length
 nd:wv tn
 e5:te.length<=5
 ed:∀(i:Nat) e,te[i]? =some e->af6 tn.length e
structure An (nn ne:Nat) (gN:List Int) (gE:List Ed):Prop where
 n:∀v∈gN,0<=v/\v<nn
 e:∀y∈gE,(0<=y.ty/\y.ty<ne)/\(0<=y.fr/\y.fr<gN.length)/\(0<=y.to/\y.to<gN.length)
abbrev c8(v:Int):List ae:=[.sc (.int .u8 v)]
abbrev mr(p:Int×Int×Int):List ae:=[.sc (.int .u8 p.1),.sc (.int .u8 p.2.1),.sc (.int .u8 p.2.2)]
def B8(v:Int):Prop:=0<=v/\v<=255
def vK(p:Int×Int×Int):Prop:=B8 p.1/\B8 p.2.1/\B8 p.2.2
def ahb{v:Int}(h:B8 v):dX bQ 1 [] j (c8 v):=by
 refine vB (nm:=1) (d:=⟨3,0,[.int .u8 2 0],[.le 0 2 0,.le 2 0 255]⟩) rfl rfl (env:=[SV.z,⟨j,false,[],[]⟩,⟨v,false,[],[]⟩]) rfl (be _) ?_ ?_ rfl;.show _=[ae.sc (.int .u8 (v+0))];rw[iY]
 intro x q;simp only[ck,lB,l7]at q;obtain⟨A,y⟩:=h;rcases q with rfl|rfl
 .show(0:Int)<=v+0;omega
 show v<=(0:Int)+255;omega
def axq{p:Int×Int×Int}(h:vK p):dX bQ 7 [] j (mr p):=by
 obtain⟨a,b,c⟩:=p;refine vB (nm:=7) (d:=⟨5,0,[.int .u8 2 0,.int .u8 3 0,.int .u8 4 0],[.le 0 2 0,.le 2 0 255,.le 0 3 0,.le 3 0 255,.le 0 4 0,.le 4 0 255]⟩) rfl rfl (env:=[SV.z,⟨j,false,[],[]⟩,⟨a,false,[],[]⟩,⟨b,false,[],[]⟩,⟨c,false,[],[]⟩]) rfl (be _) ?_ ?_ rfl;.show _=[ae.sc (.int .u8 (a+0)),ae.sc (.int .u8 (b+0)),ae.sc (.int .u8 (c+0))];simp only[iY]
 intro x q;simp only[ck,lB,l7]at q;obtain⟨⟨G,F⟩,⟨h3,D⟩,A,y⟩:=h;simp only at G F h3 D A y;rcases q with rfl|rfl|rfl|rfl|rfl|rfl
 .show(0:Int)<=a+0;omega
 .show a<=(0:Int)+255;omega
 .show(0:Int)<=b+0;omega
 .show b<=(0:Int)+255;omega
 .show(0:Int)<=c+0;omega
 show c<=(0:Int)+255;omega
def CZ{nm:Nat}{bs:List Int}{c:α->List ae}(h:∀(j:Int) a,a∈l->dX bQ nm bs j (c a))(i:Nat)(e:List ae)(q:(l.map c)[i]? =some e):dX bQ nm bs i e:=by
 rw[bM]at q;cases y:l[i]?;.rw[y]at q;cases q
 rename_i a;rw[y]at q;cases q;exact h i a (jm y)
def azM(h:dX bQ 6 [th,fl,fh] j e):∃y:Ed,e=y.c/\(0<=y.ty/\y.ty<=th)/\(fl<=y.fr/\y.fr<=fh)/\(fl<=y.to/\y.to<=fh):=by
 obtain⟨_,env,A,h2,h3,q⟩:=(yP AX (nm:=6) (d:=⟨8,3,[.int .i64 5 0,.int .i64 6 0,.int .i64 7 0],[.le 0 5 0,.le 5 1 0,.le 2 6 0,.le 6 3 0,.le 2 7 0,.le 7 3 0]⟩) rfl).1 h;have e0:(aQ env 0).i=0:=by rw[show aQ env 0=SV.z from dc (λ l=>aQ l 0) A];rfl
 have e1:(aQ env 1).i=th:=by rw[show aQ env 1=⟨th,false,[],[]⟩from dc (λ l=>aQ l 1) A]
 have Z:(aQ env 2).i=fl:=by rw[show aQ env 2=⟨fl,false,[],[]⟩from dc (λ l=>aQ l 2) A]
 have Y:(aQ env 3).i=fh:=by rw[show aQ env 3=⟨fh,false,[],[]⟩from dc (λ l=>aQ l 3) A]
 have M:(aQ env 0).i<=(aQ env 5).i+0:=q (.le 0 5 0) (by simp);have L:(aQ env 5).i<=(aQ env 1).i+0:=q (.le 5 1 0) (by simp);have J:(aQ env 2).i<=(aQ env 6).i+0:=q (.le 2 6 0) (by simp);have G:(aQ env 6).i<=(aQ env 3).i+0:=q (.le 6 3 0) (by simp);have F:(aQ env 2).i<=(aQ env 7).i+0:=q (.le 2 7 0) (by simp);have D:(aQ env 7).i<=(aQ env 3).i+0:=q (.le 7 3 0) (by simp);rw[e0]at M;rw[e1]at L;rw[Z]at J F;rw[Y]at G D;exact⟨⟨(aQ env 5).i+0,(aQ env 6).i+0,(aQ env 7).i+0⟩,h3,by simp only;omega,by simp only;omega,by simp only;omega⟩
def aaS:∀{l:aS} {k:Nat},(∀(i:Nat) e,l[i]? =some e->dX bQ 6 [th,fl,fh] ((i+k:Nat):Int) e)->∃z:List Ed,l=z.map Ed.c/\∀y∈z,(0<=y.ty/\y.ty<=th)/\(fl<=y.fr/\y.fr<=fh)/\(fl<=y.to/\y.to<=fh)
 |[],k,_=>⟨[],rfl,λ v h=>(by cases h)⟩
 |x::l,k,h=>by
  obtain⟨y,rfl,A⟩:=azM (h 0 x rfl);obtain⟨z,rfl,h3⟩:=aaS (l:=l) (k:=k+1) λ i e q=>by have:=h (i+1) e q;rw[show i+(k+1)=i+1+k by omega];exact this
  exact⟨y::z,rfl,λ w hw=>by
   rcases ck.1 hw with rfl|hw
   .exact A
   exact h3 w hw⟩
def avY{z:List Ed}(h:∀y∈z,(0<=y.ty/\y.ty<=th)/\(fl<=y.fr/\y.fr<=fh)/\(fl<=y.to/\y.to<=fh))(i:Nat)(e:List ae)(A:(z.map Ed.c)[i]? =some e):dX bQ 6 [th,fl,fh] i e:=CZ (c:=Ed.c) (λ j y q=>by obtain⟨⟨a,b⟩,⟨c,d⟩,e,f⟩:=h y q;exact acB a b c d e f) i e A
abbrev sI(n:Int):SV:=⟨n,false,[],[]⟩
abbrev sL(l:aS):SV:=⟨0,false,[],l⟩
def yn{f:Nat}{c:Ct}(h:iZ (vω af pol gl bset bV) bQ f c none)(env:List SV)(G:env.length=c.ks.length)(q:∀i:Nat,c.ks[i]? =some 0->∃n:Int,env[i]? =some (sI n))(y:∀x∈c.pre,dL bQ (aQ (SV.z::env)) x):
 ∃o∈c.outs,∃ρ',bY (c.ks.length+1) (aQ (SV.z::env)) ρ'/\(∀S,VW gl bV f (aE (aQ (SV.z::env)) c.args) S=some (ev ρ' o.res,S,false))/\∀x∈o.post,dL bQ ρ' x:=by
 obtain⟨o,A,ρ',F,_,h3,D⟩:=h (aQ (SV.z::env)) rfl (λ i hi=>by
  obtain⟨n,q⟩:=q i hi;have:aQ (SV.z::env) (i+1)=sI n:=by unfold aQ;rw[List.getD_cons_succ,pJ,q];rfl
  rw[this]) y (λ m lo e=>by cases e)
 exact⟨o,A,ρ',F,h3,D⟩
section
variable{ρ:bm}{tn te:aS}
def Js{x:Nat}(q:(ρ x).l=tn)(A:(ρ n).i=tn.length)(h:wv tn):dL bQ ρ (.sl x n 0 4 []):=by refine⟨by rw[q,A];omega,λ i e y=>?_⟩;rw[q]at y;exact ayI (h.2 i e y)
def Mu{x:Nat}(q:(ρ x).l=te)(D:(ρ m).i=te.length)(A:(ρ n).i=tn.length)(h:sh tn te):dL bQ ρ (.sl x m 0 5 [(n,0)]):=by refine⟨by rw[q,D];omega,λ i e y=>?_⟩;rw[q]at y;show dX bQ 5 [(ρ n).i+0] i e;rw[A,iY];exact anZ (h.ed i e y)
def sk{x:Nat}{c:Int}{z:List Int}(q:(ρ x).l=z.map λ k=>[eI k])(A:(ρ n).i=z.length)(h:∀v∈z,(ρ a).i+c<=v/\v<=(ρ b).i+d):dL bQ ρ (.sl x n 0 0 [(a,c),(b,d)]):=by refine⟨by rw[q,A,aF];omega,λ i e y=>?_⟩;rw[q]at y;exact ahU h i e y
def EJ{x f:Nat}{c:Int}{z:List Ed}(q:(ρ x).l=z.map Ed.c)(D:(ρ n).i=z.length)(h:∀y∈z,(0<=y.ty/\y.ty<=(ρ a).i+c)/\((ρ b).i+d<=y.fr/\y.fr<=(ρ f).i+g)/\((ρ b).i+d<=y.to/\y.to<=(ρ f).i+g)):dL bQ ρ (.sl x n 0 6 [(a,c),(b,d),(f,g)]):=by refine⟨by rw[q,D,aF];omega,λ i e A=>?_⟩;rw[q]at A;exact avY h i e A
def JV{x a b:Nat}{c:Int}(h:dL bQ ρ (.sl x n 0 0 [(a,c),(b,d)])):∃z:List Int,(ρ x).l=z.map (λ k=>[eI k])/\(z.length:Int)=(ρ n).i/\∀v∈z,(ρ a).i+c<=v/\v<=(ρ b).i+d:=by obtain⟨A,y⟩:=h;obtain⟨z,q,h3⟩:=SS (tb:=[]) (a:=(ρ a).i+c) (b:=(ρ b).i+d) y;exact⟨z,q,by rw[q,aF]at A;omega,h3⟩
def aif{x f:Nat}{c:Int}(h:dL bQ ρ (.sl x n 0 6 [(a,c),(b,d),(f,g)])):∃z:List Ed,(ρ x).l=z.map Ed.c/\(z.length:Int)=(ρ n).i/\∀y∈z,(0<=y.ty/\y.ty<=(ρ a).i+c)/\((ρ b).i+d<=y.fr/\y.fr<=(ρ f).i+g)/\((ρ b).i+d<=y.to/\y.to<=(ρ f).i+g):=by obtain⟨D,A⟩:=h;obtain⟨z,q,h3⟩:=aaS (l:=(ρ x).l) (k:=0) (th:=(ρ a).i+c) (fl:=(ρ b).i+d) (fh:=(ρ f).i+g) A;exact⟨z,q,by rw[q,aF]at D;omega,h3⟩
end
def xZ{p:wo}(h:wq[k]? =some p):iZ (vω af pol gl bset bV) bQ p.2.2.1 p.2.2.2 none:=cts p (jm h)
def agl{tn te:aS}(A:sh tn te){zn:List Int}{ze:List (Int×Int×Int)}{most:Nat}(h1:∀v∈zn,B8 v)(h2:∀p∈ze,vK p)(l1:zn.length<=1000)(l2:ze.length<=1000)(hm:most<=4):
 ∃gN gE,(∀S,VW gl bV 8 [iK tn te,.sl (zn.map c8) none,.sl (ze.map mr) none,eI most] S=some (kv gN gE,S,false))/\An tn.length te.length gN gE/\gN.length<=most/\gE.length<=8/\gE.length<=ze.length:=by
 have hc:=xZ (gl:=gl) (k:=13) (p:=(10,none,8,Ew)) rfl;have ab:=A.nd.1;have ad:=A.e5;have ac:=A.n1
 obtain⟨o,F,ρ',q,D,h⟩:=yn hc [sL tn,sL te,sL (zn.map c8),sL (ze.map mr),sI most,sI tn.length,sI te.length,sI zn.length,sI ze.length] rfl (λ i hi=>by
  match i,hi with
  |4,_=>exact⟨_,rfl⟩
  |5,_=>exact⟨_,rfl⟩
  |6,_=>exact⟨_,rfl⟩
  |7,_=>exact⟨_,rfl⟩
  |8,_=>exact⟨_,rfl⟩) (λ x L=>by
  simp only[Ew,ck,lB,l7]at L;rcases L with rfl|rfl|rfl|rfl|rfl|rfl|rfl|rfl|rfl|rfl|rfl|rfl|rfl|rfl
  .exact Js (tn:=tn) rfl rfl A.nd
  .exact Mu (tn:=tn) (te:=te) rfl rfl rfl A
  .show(0:Int)<=(tn.length:Int)+ -1;omega
  .show(tn.length:Int)<=(0:Int)+6;omega
  .show(0:Int)<=(te.length:Int)+0;omega
  .show(te.length:Int)<=(0:Int)+5;omega
  .refine⟨?_,λ i e G=>CZ (c:=c8) (λ j a q=>ahb (h1 a q)) i e G⟩;show((zn.map c8).length:Int)=(zn.length:Int)+0;rw[aF];omega
  .refine⟨?_,λ i e G=>CZ (c:=mr) (λ j a q=>axq (h2 a q)) i e G⟩;show((ze.map mr).length:Int)=(ze.length:Int)+0;rw[aF];omega
  .show(0:Int)<=(zn.length:Int)+0;omega
  .show(zn.length:Int)<=(0:Int)+1000;omega
  .show(0:Int)<=(ze.length:Int)+0;omega
  .show(ze.length:Int)<=(0:Int)+1000;omega
  .show(0:Int)<=(most:Int)+0;omega
  show(most:Int)<=(0:Int)+4;omega)
 have F:o=⟨4,.agg [.sl 10 none,.sl 11 none],[.sl 10 12 0 0 [(0,0),(6,(-1))],.sl 11 13 0 6 [(7,(-1)),(0,0),(12,(-1))],.le 0 12 0,.le 12 5 0,.le 12 0 4,.le 0 13 0,.le 13 0 8,.le 13 9 0]⟩:=dp.1 F;subst F;have Y:(ρ' 0).i=0:=by rw[<-q 0 (by decide)];rfl
 have a5:(ρ' 5).i=most:=by rw[<-q 5 (by decide)];rfl
 have a6:(ρ' 6).i=tn.length:=by rw[<-q 6 (by decide)];rfl
 have a7:(ρ' 7).i=te.length:=by rw[<-q 7 (by decide)];rfl
 have a9:(ρ' 9).i=ze.length:=by rw[<-q 9 (by decide)];rfl
 obtain⟨gN,n1,n2,J⟩:=JV (h (.sl 10 12 0 0 [(0,0),(6,(-1))]) (by simp));obtain⟨gE,e1,e2,M⟩:=aif (h (.sl 11 13 0 6 [(7,(-1)),(0,0),(12,(-1))]) (by simp));have p1:(ρ' 12).i<=(ρ' 5).i+0:=h (.le 12 5 0) (by simp);have p2:(ρ' 13).i<=(ρ' 0).i+8:=h (.le 13 0 8) (by simp);have p3:(ρ' 13).i<=(ρ' 9).i+0:=h (.le 13 9 0) (by simp);rw[Y,a6]at J;rw[a7,Y]at M;refine⟨gN,gE,λ S=>?_,⟨λ v hv=>by have:=J v hv;omega,λ y Z=>by have:=M y Z;omega⟩,by omega,by omega,by omega⟩;have D:=D S;have hS:ev ρ' (.agg [.sl 10 none,.sl 11 none])=kv gN gE:=by show ae.agg [.sl (ρ' 10).l none,.sl (ρ' 11).l none]=_;rw[n1,e1]
 rw[hS]at D;have hA:aE (aQ (SV.z::[sL tn,sL te,sL (zn.map c8),sL (ze.map mr),sI most,sI tn.length,sI te.length,sI zn.length,sI ze.length])) Ew.args=[iK tn te,.sl (zn.map c8) none,.sl (ze.map mr) none,eI ((most:Int)+0)]:=rfl;rw[hA,iY]at D;exact D
end
section
open Go.Proofs
variable{gl:aM}
theorem at3{t:Int}(F:lo<=t)(D:t<=hi)(h3:lo<=a)(A:a<=hi)(y:lo<=b)(q:b<=hi):dX bQ 10 [lo,hi] j [.sc (.int .i64 t),.sc (.int .i64 a),.sc (.int .i64 b)]:=by
 refine vB (nm:=10) (d:=⟨7,2,[.int .i64 4 0,.int .i64 5 0,.int .i64 6 0],[.le 1 4 0,.le 4 2 0,.le 1 5 0,.le 5 2 0,.le 1 6 0,.le 6 2 0]⟩) rfl rfl (env:=[SV.z,⟨lo,false,[],[]⟩,⟨hi,false,[],[]⟩,⟨j,false,[],[]⟩,⟨t,false,[],[]⟩,⟨a,false,[],[]⟩,⟨b,false,[],[]⟩]) rfl (be _) ?_ ?_ rfl;.show _=[ae.sc (.int .i64 (t+0)),ae.sc (.int .i64 (a+0)),ae.sc (.int .i64 (b+0))];grind
 intro f h;simp only[ck,lB,l7]at h;rcases h with rfl|rfl|rfl|rfl|rfl|rfl
 .show lo<=t+0;omega
 .show t<=hi+0;omega
 .show lo<=a+0;omega
 .show a<=hi+0;omega
 .show lo<=b+0;omega
 show b<=hi+0;omega
def rU(lN:List Int)(lE:List Ed)(rN:List Int)(rE:List Ed)(kN kE iN iE:List Int):RU:=⟨.sc (.str [114]),lN,lE,.sl [] none,eI 0,.sl [] none,rN,rE,.sl [] none,eI 0,.sl [] none,kN,kE,iN,iE,eB true,eI 1,.sl [] none,.sl [] none,.sl [] none,.sl [] none,.sl [] none,.sl [] none,eI 0,.sl [] none⟩
structure sV (nn ne:Nat) (r:RU):Prop where
 ex:∃lN lE rN rE kN kE iN iE,r=rU lN lE rN rE kN kE iN iE
 gl:An nn ne r.lN r.lE
 gr:An nn ne r.rN r.rE
 a1:r.lN.length<=2
 a2:r.lE.length<=2
 a3:r.rN.length<=4
 a4:r.rE.length<=7
 kN:∀v∈r.kN,0<=v/\v<r.lN.length
 kE:∀v∈r.kE,0<=v/\v<r.lE.length
 iN:∀v∈r.iN,0<=v/\v<r.rN.length
 iE:∀v∈r.iE,0<=v/\v<r.rE.length
 b1:r.kN.length<=2
 b2:r.kE.length<=2
 b3:r.iN.length<=2
 b4:r.iE.length<=2
 ik:r.iN.length<=r.kN.length
abbrev am4:vQ:=⟨20,2,[.sc (.str [114]),.sl 4 none,.sl 5 none,.sx [] none,.int .i64 0 0,.sx [] none,.sl 6 none,.sl 7 none,.sx [] none,.int .i64 0 0,.sx [] none,.sl 8 none,.sl 9 none,.sl 10 none,.sl 11 none,.sc (.bool true),.int .i64 0 1,.sx [] none,.sx [] none,.sx [] none,.sx [] none,.sx [] none,.sx [] none,.int .i64 0 0,.sx [] none],[.sl 4 12 0 0 [(0,0),(1,(-1))],.sl 5 13 0 6 [(2,(-1)),(0,0),(12,(-1))],.le 0 12 0,.le 12 0 40,.le 0 13 0,.le 13 0 40,.sl 6 14 0 0 [(0,0),(1,(-1))],.sl 7 15 0 6 [(2,(-1)),(0,0),(14,(-1))],.le 0 14 0,.le 14 0 40,.le 0 15 0,.le 15 0 40,.sl 8 16 0 0 [(0,0),(12,(-1))],.sl 9 17 0 0 [(0,0),(13,(-1))],.sl 10 18 0 0 [(0,0),(14,(-1))],.sl 11 19 0 0 [(0,0),(15,(-1))],.le 0 12 0,.le 12 0 2,.le 0 13 0,.le 13 0 2,.le 0 14 0,.le 14 0 4,.le 0 15 0,.le 15 0 7,.le 0 16 0,.le 16 0 2,.le 0 17 0,.le 17 0 2,.le 0 18 0,.le 18 0 2,.le 0 19 0,.le 19 0 2]⟩
theorem alz{A ne:Nat}{r:RU}(h:sV A ne r):dX bQ 12 [(A:Int),(ne:Int)] j r.c:=by
 obtain⟨⟨lN,lE,rN,rE,kN,kE,iN,iE,rfl⟩,G,F,a1,a2,a3,a4,Y,M,h3,L,b1,b2,b3,b4,_⟩:=h;simp only[rU]at G F a1 a2 a3 a4 Y M h3 L b1 b2 b3 b4;refine vB (nm:=12) (d:=am4) rfl rfl (env:=[SV.z,sI A,sI ne,sI j,sL (lN.map λ k=>[eI k]),sL (lE.map Ed.c),sL (rN.map λ k=>[eI k]),sL (rE.map Ed.c),sL (kN.map λ k=>[eI k]),sL (kE.map λ k=>[eI k]),sL (iN.map λ k=>[eI k]),sL (iE.map λ k=>[eI k]),sI lN.length,sI lE.length,sI rN.length,sI rE.length,sI kN.length,sI kE.length,sI iN.length,sI iE.length]) rfl (be _) rfl ?_ rfl;intro x J;simp only[ck,lB,l7]at J;rcases J with rfl|rfl|rfl|rfl|rfl|rfl|rfl|rfl|rfl|rfl|rfl|rfl|rfl|rfl|rfl|rfl|rfl|rfl|rfl|rfl|rfl|rfl|rfl|rfl|rfl|rfl|rfl|rfl|rfl|rfl|rfl|rfl
 .exact sk rfl rfl λ v q=>by have:=G.n v q;show(0:Int)+0<=v/\v<=(A:Int)+ -1;omega
 .exact EJ rfl rfl λ y D=>by have:=G.e y D;show(0<=y.ty/\y.ty<=(ne:Int)+ -1)/\((0:Int)+0<=y.fr/\y.fr<=(lN.length:Int)+ -1)/\((0:Int)+0<=y.to/\y.to<=(lN.length:Int)+ -1);omega
 .show(0:Int)<=(lN.length:Int)+0;omega
 .show(lN.length:Int)<=(0:Int)+40;omega
 .show(0:Int)<=(lE.length:Int)+0;omega
 .show(lE.length:Int)<=(0:Int)+40;omega
 .exact sk rfl rfl λ v q=>by have:=F.n v q;show(0:Int)+0<=v/\v<=(A:Int)+ -1;omega
 .exact EJ rfl rfl λ y D=>by have:=F.e y D;show(0<=y.ty/\y.ty<=(ne:Int)+ -1)/\((0:Int)+0<=y.fr/\y.fr<=(rN.length:Int)+ -1)/\((0:Int)+0<=y.to/\y.to<=(rN.length:Int)+ -1);omega
 .show(0:Int)<=(rN.length:Int)+0;omega
 .show(rN.length:Int)<=(0:Int)+40;omega
 .show(0:Int)<=(rE.length:Int)+0;omega
 .show(rE.length:Int)<=(0:Int)+40;omega
 .exact sk rfl rfl λ v q=>by have:=Y v q;show(0:Int)+0<=v/\v<=(lN.length:Int)+ -1;omega
 .exact sk rfl rfl λ v q=>by have:=M v q;show(0:Int)+0<=v/\v<=(lE.length:Int)+ -1;omega
 .exact sk rfl rfl λ v q=>by have:=h3 v q;show(0:Int)+0<=v/\v<=(rN.length:Int)+ -1;omega
 .exact sk rfl rfl λ v q=>by have:=L v q;show(0:Int)+0<=v/\v<=(rE.length:Int)+ -1;omega
 .show(0:Int)<=(lN.length:Int)+0;omega
 .show(lN.length:Int)<=(0:Int)+2;omega
 .show(0:Int)<=(lE.length:Int)+0;omega
 .show(lE.length:Int)<=(0:Int)+2;omega
 .show(0:Int)<=(rN.length:Int)+0;omega
 .show(rN.length:Int)<=(0:Int)+4;omega
 .show(0:Int)<=(rE.length:Int)+0;omega
 .show(rE.length:Int)<=(0:Int)+7;omega
 .show(0:Int)<=(kN.length:Int)+0;omega
 .show(kN.length:Int)<=(0:Int)+2;omega
 .show(0:Int)<=(kE.length:Int)+0;omega
 .show(kE.length:Int)<=(0:Int)+2;omega
 .show(0:Int)<=(iN.length:Int)+0;omega
 .show(iN.length:Int)<=(0:Int)+2;omega
 .show(0:Int)<=(iE.length:Int)+0;omega
 show(iE.length:Int)<=(0:Int)+2;omega
section
variable{ρ:bm}{tn te:aS}
theorem aml{x a b:Nat}(q:(ρ x).l=R.map RU.c)(A:(ρ n).i=R.length)(F:(ρ a).i=tn.length)(D:(ρ b).i=te.length)(h:∀r∈R,sV tn.length te.length r):dL bQ ρ (.sl x n 0 12 [(a,0),(b,0)]):=by refine⟨by grind,λ i e y=>?_⟩;rw[q]at y;show dX bQ 12 [(ρ a).i+0,(ρ b).i+0] i e;grind[alz]
end
def OI{tn te:aS}(q:sh tn te)(h:∀r∈R,sV tn.length te.length r)(h3:R.length<=3):∀x∈([.sl 1 4 0 4 [],.sl 2 5 0 5 [(4,0)],.le 0 4 (-1),.le 4 0 6,.le 0 5 0,.le 5 0 5,.sl 3 6 0 12 [(4,0),(5,0)],.le 0 6 0,.le 6 0 3]:List cq),dL bQ (aQ (SV.z::[sL tn,sL te,sL (R.map RU.c),sI tn.length,sI te.length,sI R.length])) x:=by
 have A:=q.nd.1;have F:=q.e5;have D:=q.n1;intro x y;simp only[ck,lB,l7]at y;rcases y with rfl|rfl|rfl|rfl|rfl|rfl|rfl|rfl|rfl
 .exact Js (tn:=tn) rfl rfl q.nd
 .exact Mu (tn:=tn) (te:=te) rfl rfl rfl q
 .show(0:Int)<=(tn.length:Int)+ -1;omega
 .show(tn.length:Int)<=(0:Int)+6;omega
 .show(0:Int)<=(te.length:Int)+0;omega
 .show(te.length:Int)<=(0:Int)+5;omega
 .exact aml (tn:=tn) (te:=te) rfl rfl rfl rfl h
 .show(0:Int)<=(R.length:Int)+0;omega
 show(R.length:Int)<=(0:Int)+3;omega
def Qh{tn te:aS}:∀i:Nat,([1,1,1,0,0,0]:List Nat)[i]? =some 0->∃n:Int,[sL tn,sL te,sL (R.map RU.c),sI tn.length,sI te.length,sI R.length][i]? =some (sI n):=λ i hi=>by
 match i,hi with
 |3,_=>exact⟨_,rfl⟩
 |4,_=>exact⟨_,rfl⟩
 |5,_=>exact⟨_,rfl⟩
def akg{tn te:aS}(A:sh tn te)(h:∀r∈R,sV tn.length te.length r)(h3:R.length<=3):∃e:Int,∀S,VW gl bV 12 [iK tn te,ll R] S=some (eI e,S,false):=by obtain⟨o,y,ρ',F,D,q⟩:=yn (xZ (gl:=gl) (k:=53) (p:=(50,none,12,PY)) rfl) [sL tn,sL te,sL (R.map RU.c),sI tn.length,sI te.length,sI R.length] rfl Qh (OI A h h3);have y:o=⟨1,.int .i64 7 0,[.le 0 7 0,.le 7 0 20]⟩:=dp.1 y;subst y;exact⟨(ρ' 7).i+0,D⟩
def ayK{tn te:aS}(A:sh tn te)(h:∀r∈R,sV tn.length te.length r)(h3:R.length<=3):∃b:Bool,∀S,VW gl bV 13 [iK tn te,ll R] S=some (eB b,S,false):=by obtain⟨o,y,ρ',F,D,q⟩:=yn (xZ (gl:=gl) (k:=54) (p:=(51,none,13,UK)) rfl) [sL tn,sL te,sL (R.map RU.c),sI tn.length,sI te.length,sI R.length] rfl Qh (OI A h h3);have y:o=⟨1,.bs 7,[]⟩:=dp.1 y;subst y;exact⟨(ρ' 7).b,D⟩
def at5{tn te:aS}(A:sh tn te)(h:∀r∈R,sV tn.length te.length r)(h3:R.length<=3):∃e:Int,∀S,VW gl bV 20 [iK tn te,ll R] S=some (eI e,S,false):=by obtain⟨o,y,ρ',F,D,q⟩:=yn (xZ (gl:=gl) (k:=98) (p:=(98,none,20,Rg)) rfl) [sL tn,sL te,sL (R.map RU.c),sI tn.length,sI te.length,sI R.length] rfl Qh (OI A h h3);have y:o=⟨1,.int .i64 7 0,[.le 0 7 0,.le 7 0 20]⟩:=dp.1 y;subst y;exact⟨(ρ' 7).i+0,D⟩
def aqn{tn te:aS}(q:sh tn te)(h:An tn.length te.length gN gE)(l1:gN.length<=40)(l2:gE.length<=40):∃b:Bool,∀S,VW gl bV 31 [iK tn te,kv gN gE] S=some (eB b,S,false):=by
 have M:=q.nd.1;have Z:=q.e5;have Y:=q.n1
 obtain⟨o,D,ρ',ha,L,A⟩:=yn (xZ (gl:=gl) (k:=94) (p:=(94,none,31,JR)) rfl) [sL tn,sL te,sL (gN.map λ k=>[eI k]),sL (gE.map Ed.c),sI tn.length,sI te.length,sI gN.length,sI gE.length] rfl (λ i hi=>by
  match i,hi with
  |4,_=>exact⟨_,rfl⟩
  |5,_=>exact⟨_,rfl⟩
  |6,_=>exact⟨_,rfl⟩
  |7,_=>exact⟨_,rfl⟩) (λ x F=>by
  simp only[JR,ck,lB,l7]at F;rcases F with rfl|rfl|rfl|rfl|rfl|rfl|rfl|rfl|rfl|rfl|rfl|rfl
  .exact Js (tn:=tn) rfl rfl q.nd
  .exact Mu (tn:=tn) (te:=te) rfl rfl rfl q
  .show(0:Int)<=(tn.length:Int)+ -1;omega
  .show(tn.length:Int)<=(0:Int)+6;omega
  .show(0:Int)<=(te.length:Int)+0;omega
  .show(te.length:Int)<=(0:Int)+5;omega
  .exact sk rfl rfl λ v J=>by have:=h.n v J;show(0:Int)+0<=v/\v<=(tn.length:Int)+ -1;omega
  .exact EJ rfl rfl λ y G=>by have:=h.e y G;show(0<=y.ty/\y.ty<=(te.length:Int)+ -1)/\((0:Int)+0<=y.fr/\y.fr<=(gN.length:Int)+ -1)/\((0:Int)+0<=y.to/\y.to<=(gN.length:Int)+ -1);omega
  .show(0:Int)<=(gN.length:Int)+0;omega
  .show(gN.length:Int)<=(0:Int)+40;omega
  .show(0:Int)<=(gE.length:Int)+0;omega
  show(gE.length:Int)<=(0:Int)+40;omega)
 have D:o=⟨1,.bs 9,[]⟩:=dp.1 D;subst D;exact⟨(ρ' 9).b,L⟩
def ayu(h1:∀v∈gN,-1<=v/\v<=1000)(h2:∀y∈gE,(-1<=y.ty/\y.ty<=1000)/\(-1<=y.fr/\y.fr<=1000)/\(-1<=y.to/\y.to<=1000))(l1:gN.length<=1000)(l2:gE.length<=1000):∃e:Int,∀S,VW gl bV 30 [kv gN gE] S=some (eI e,S,false):=by
 obtain⟨o,q,ρ',ha,D,h⟩:=yn (xZ (gl:=gl) (k:=15) (p:=(12,none,30,FJ)) rfl) [sL (gN.map λ k=>[eI k]),sL (gE.map Ed.c),sI gN.length,sI gE.length] rfl (λ i hi=>by
  match i,hi with
  |2,_=>exact⟨_,rfl⟩
  |3,_=>exact⟨_,rfl⟩) (λ x A=>by
  simp only[FJ,ck,lB,l7]at A;rcases A with rfl|rfl|rfl|rfl|rfl|rfl
  .exact sk rfl rfl λ v Z=>by have:=h1 v Z;show(0:Int)+ -1<=v/\v<=(0:Int)+1000;omega
  .refine⟨?_,λ i e he=>CZ (c:=Ed.c) (λ j y Y=>?_) i e he⟩;.show((gE.map Ed.c).length:Int)=(gE.length:Int)+0;rw[aF];omega
   obtain⟨⟨M,L⟩,⟨J,G⟩,F,q6⟩:=h2 y Y;exact at3 (lo:= -1) (hi:=1000) M L J G F q6
  .show(0:Int)<=(gN.length:Int)+0;omega
  .show(gN.length:Int)<=(0:Int)+1000;omega
  .show(0:Int)<=(gE.length:Int)+0;omega
  show(gE.length:Int)<=(0:Int)+1000;omega)
 have q:o=⟨0,.int .i64 0 0,[.sl 1 3 0 0 [(0,0),(0,99)],.sl 2 4 0 6 [(0,99),(0,0),(3,(-1))],.le 3 0 40,.le 4 0 80]⟩\/o=⟨1,.int .i64 5 0,[.le 0 5 (-1),.le 5 0 20]⟩:=by simpa[FJ]using q
 rcases q with rfl|rfl
 .exact⟨(ρ' 0).i+0,D⟩
 exact⟨(ρ' 5).i+0,D⟩
def aqN(M:∀v∈gN,0<=v/\v<=99)(L:∀y∈gE,(0<=y.ty/\y.ty<=99)/\(0<=y.fr/\y.fr<gN.length)/\(0<=y.to/\y.to<gN.length))(l1:gN.length<=40)(l2:gE.length<=80)
 (h3:∀v∈pN,0<=v/\v<gN.length) (J:∀v∈pE,0<=v/\v<gE.length) (Z:pN.length<=1000) (Y:pE.length<=1000):∃e:Int,∀S,VW gl bV 25 [kv gN gE,qK pN pE] S=some (eI e,S,false):=by
 obtain⟨o,A,ρ',ha,G,q⟩:=yn (xZ (gl:=gl) (k:=30) (p:=(27,none,25,L3)) rfl) [sL (gN.map λ k=>[eI k]),sL (gE.map Ed.c),sL (pN.map λ k=>[eI k]),sL (pE.map λ k=>[eI k]),sI gN.length,sI gE.length,sI pN.length,sI pE.length] rfl (λ i hi=>by
  match i,hi with
  |4,_=>exact⟨_,rfl⟩
  |5,_=>exact⟨_,rfl⟩
  |6,_=>exact⟨_,rfl⟩
  |7,_=>exact⟨_,rfl⟩) (λ x D=>by
  simp only[L3,ck,lB,l7]at D;rcases D with rfl|rfl|rfl|rfl|rfl|rfl|rfl|rfl|rfl|rfl|rfl|rfl
  .exact sk rfl rfl λ v h=>by have:=M v h;show(0:Int)+0<=v/\v<=(0:Int)+99;omega
  .exact EJ rfl rfl λ y F=>by have:=L y F;show(0<=y.ty/\y.ty<=(0:Int)+99)/\((0:Int)+0<=y.fr/\y.fr<=(gN.length:Int)+ -1)/\((0:Int)+0<=y.to/\y.to<=(gN.length:Int)+ -1);omega
  .show(0:Int)<=(gN.length:Int)+0;omega
  .show(gN.length:Int)<=(0:Int)+40;omega
  .show(0:Int)<=(gE.length:Int)+0;omega
  .show(gE.length:Int)<=(0:Int)+80;omega
  .exact sk rfl rfl λ v h=>by have:=h3 v h;show(0:Int)+0<=v/\v<=(gN.length:Int)+ -1;omega
  .exact sk rfl rfl λ v h=>by have:=J v h;show(0:Int)+0<=v/\v<=(gE.length:Int)+ -1;omega
  .show(0:Int)<=(pN.length:Int)+0;omega
  .show(pN.length:Int)<=(0:Int)+1000;omega
  .show(0:Int)<=(pE.length:Int)+0;omega
  show(pE.length:Int)<=(0:Int)+1000;omega)
 have A:o=⟨1,.int .i64 9 0,[.le 0 9 0,.le 9 0 20]⟩:=dp.1 A;subst A;exact⟨(ρ' 9).i+0,G⟩
def amU{tn te:aS}(F:sh tn te)(h:An tn.length te.length gN gE)(l1:gN.length<=2)(l2:gE.length<=2){zn:List Int}(hz:∀v∈zn,B8 v)(l3:zn.length<=3):
 ∃rN rE iN iE,(∀S,VW gl bV 11 [iK tn te,kv gN gE,.sl (zn.map c8) none] S=some (.aL [kv rN rE,qK iN iE],S,false))/\An tn.length te.length rN rE/\rN.length<=4/\rE.length<=7/\(∀v∈iN,0<=v/\v<rN.length)/\(∀v∈iE,0<=v/\v<rE.length)/\iN.length=gN.length/\iE.length=gE.length:=by
 have ab:=F.nd.1;have ad:=F.e5;have ac:=F.n1
 obtain⟨o,M,ρ',D,G,q⟩:=yn (xZ (gl:=gl) (k:=99) (p:=(99,none,11,Ko)) rfl) [sL tn,sL te,sL (gN.map λ k=>[eI k]),sL (gE.map Ed.c),sL (zn.map c8),sI tn.length,sI te.length,sI gN.length,sI gE.length,sI zn.length] rfl (λ i hi=>by
  match i,hi with
  |5,_=>exact⟨_,rfl⟩
  |6,_=>exact⟨_,rfl⟩
  |7,_=>exact⟨_,rfl⟩
  |8,_=>exact⟨_,rfl⟩
  |9,_=>exact⟨_,rfl⟩) (λ x hx=>by
  simp only[Ko,ck,lB,l7]at hx;rcases hx with rfl|rfl|rfl|rfl|rfl|rfl|rfl|rfl|rfl|rfl|rfl|rfl|rfl|rfl|rfl
  .exact Js (tn:=tn) rfl rfl F.nd
  .exact Mu (tn:=tn) (te:=te) rfl rfl rfl F
  .show(0:Int)<=(tn.length:Int)+ -1;omega
  .show(tn.length:Int)<=(0:Int)+6;omega
  .show(0:Int)<=(te.length:Int)+0;omega
  .show(te.length:Int)<=(0:Int)+5;omega
  .exact sk rfl rfl λ v A=>by have:=h.n v A;show(0:Int)+0<=v/\v<=(tn.length:Int)+ -1;omega
  .exact EJ rfl rfl λ y L=>by have:=h.e y L;show(0<=y.ty/\y.ty<=(te.length:Int)+ -1)/\((0:Int)+0<=y.fr/\y.fr<=(gN.length:Int)+ -1)/\((0:Int)+0<=y.to/\y.to<=(gN.length:Int)+ -1);omega
  .show(0:Int)<=(gN.length:Int)+0;omega
  .show(gN.length:Int)<=(0:Int)+2;omega
  .show(0:Int)<=(gE.length:Int)+0;omega
  .show(gE.length:Int)<=(0:Int)+2;omega
  .refine⟨?_,λ i e he=>CZ (c:=c8) (λ j a D=>ahb (hz a D)) i e he⟩;show((zn.map c8).length:Int)=(zn.length:Int)+0;rw[aF];omega
  .show(0:Int)<=(zn.length:Int)+0;omega
  show(zn.length:Int)<=(0:Int)+3;omega)
 have M:o=⟨6,.aL [.agg [.sl 11 none,.sl 12 none],.agg [.sl 13 none,.sl 14 none]],[.sl 11 15 0 0 [(0,0),(6,(-1))],.sl 12 16 0 6 [(7,(-1)),(0,0),(15,(-1))],.le 8 15 0,.le 15 0 4,.le 9 16 0,.le 16 0 7,.le 0 16 0,.sl 13 8 0 0 [(0,0),(8,(-1))],.sl 14 9 0 0 [(0,0),(9,(-1))]]⟩:=dp.1 M;subst M;have J:(ρ' 0).i=0:=by rw[<-D 0 (by decide)];rfl
 have a6:(ρ' 6).i=tn.length:=by rw[<-D 6 (by decide)];rfl
 have a7:(ρ' 7).i=te.length:=by rw[<-D 7 (by decide)];rfl
 have a8:(ρ' 8).i=gN.length:=by rw[<-D 8 (by decide)];rfl
 have a9:(ρ' 9).i=gE.length:=by rw[<-D 9 (by decide)];rfl
 obtain⟨rN,n1,n2,Z⟩:=JV (q (.sl 11 15 0 0 [(0,0),(6,(-1))]) (by simp));obtain⟨rE,e1,e2,e3⟩:=aif (q (.sl 12 16 0 6 [(7,(-1)),(0,0),(15,(-1))]) (by simp));obtain⟨iN,m1,m2,m3⟩:=JV (q (.sl 13 8 0 0 [(0,0),(8,(-1))]) (by simp));obtain⟨iE,q1,q2,Y⟩:=JV (q (.sl 14 9 0 0 [(0,0),(9,(-1))]) (by simp));have p1:(ρ' 8).i<=(ρ' 15).i+0:=q (.le 8 15 0) (by simp);have p2:(ρ' 15).i<=(ρ' 0).i+4:=q (.le 15 0 4) (by simp);have p3:(ρ' 9).i<=(ρ' 16).i+0:=q (.le 9 16 0) (by simp);have p4:(ρ' 16).i<=(ρ' 0).i+7:=q (.le 16 0 7) (by simp);rw[J,a6]at Z;rw[a7,J]at e3;rw[J,a8]at m3;rw[J,a9]at Y;refine⟨rN,rE,iN,iE,λ S=>?_,⟨λ v A=>by have:=Z v A;omega,λ y L=>by have:=e3 y L;omega⟩,by omega,by omega,λ v A=>by have:=m3 v A;omega,λ v A=>by have:=Y v A;omega,by omega,by omega⟩;have G:=G S;have hS:ev ρ' (.aL [.agg [.sl 11 none,.sl 12 none],.agg [.sl 13 none,.sl 14 none]])=.aL [kv rN rE,qK iN iE]:=by show ae.aL [.agg [.sl (ρ' 11).l none,.sl (ρ' 12).l none],.agg [.sl (ρ' 13).l none,.sl (ρ' 14).l none]]=_;rw[n1,e1,m1,q1]
 rw[hS]at G;exact G
end
section
open Go.Proofs
variable{a:BitVec 64}
variable{gl:aM}
def R4:CC:=.seq (.ak A8 (some ([1,2,4,6,8],[1,2,4,6]))) (.seq (.seq (.ak Bl (some ([1,2,4,6,8,67,68,69],[1,2,4,6]))) (.block 2 (wL))) (.seq (.ak CS (some ([2,4,6,8,16],[2,4,6,16]))) (.seq (.seq (.ak C6 (some ([2,4,6,8,16,150],[2,4,6,16]))) (.cond (.t 150) (.seq (.ak KW (some ([2,3,4,5],[2,4]))) (.ret)) (.skip))) (.seq (.ak No (some ([2,4,6,8,17,18],[2,4,6,17]))) (.seq (.dK JT [[],[],[],[],[3],[3,4],[3,4,5],[3,4,5,6],[3,4,5,6,7],[0,3,4,5,6,7],[0,1,3,4,5,6,7,9],[0,1,2,3,4,5,6,7,9,10],[0,1,2,3,4,5,6,7,8,9,10,11]] (some ([2,3,4,5],[2,4]))) (.ret))))))
abbrev nI:=List Int×List (Int×Int×Int)×BitVec 64×List Int
abbrev pF(x:nI):List ae:=[.sl (x.1.map c8) none,.sl (x.2.1.map mr) none,eW x.2.2.1,.sl (x.2.2.2.map c8) none]
def yS(x:nI):Prop:=(∀v∈x.1,B8 v)/\(∀p∈x.2.1,vK p)/\∀v∈x.2.2.2,B8 v
theorem ai3:rm a i=a.getLsbD i:=by grind[rm,BitVec.getLsbD,Nat.testBit]
def kb(n:Nat):BitVec 64:=15#64>>>(4-n)
def atB(h:n<=2):∀i,i<n->rm (a|||kb n) i=true:=by
 intro i hi;rw[ai3,BitVec.getLsbD_or]
 have:(kb n).getLsbD i=true:=by
  match n,h,i,hi with
  |1,_,0,_=>rfl
  |2,_,0,_=>rfl
  |2,_,1,_=>rfl
 rw[this,rM]
def at0{t:TypeId}{a:BitVec 64}(q:n<64):dn af .shr t (eW a) (eI (n:Int))=some (eW (a>>>n)):=by have h:=RB (t:=t) (a:=a) q;rw[nw];have h:cV af .shr t (.int .u64 (a.toNat:Int)) (.int .i64 (n:Int))=_:=h;rw[h];rfl
def apA(h:n<=2):dn af .shr t (.sc (.int .u64 15)) (eI (4-(n:Int)))=some (eW (kb n)):=by
 have e:(4-(n:Int))=((4-n:Nat):Int):=by omega
 rw[e];exact at0 (a:=15#64) (by omega)
theorem atd(D:gN.length<=10)(A:gE.length<=20)(h3:∀e∈gE,(0<=e.fr/\e.fr<gN.length)/\(0<=e.to/\e.to<gN.length))(y:∀i,i<gN.length->rm a i=true):
 ∃kE,(∀S,VW gl bV 9 [kv gN gE,eW a] S=some (qK (nW gN.length) kE,S,false))/\(∀v∈kE,0<=v/\v<gE.length)/\kE.length<=gE.length:=by
 refine⟨fF 0 (pc a gN.length gE.length) [],λ S=>?_,λ v q=>?_,?_⟩;.refine wU rfl ?_ rfl;simp only[bV];rw[aj (by decide),aj (by decide),aj (by decide),aj (by decide),aj (by decide),aj (by decide),ao trivial,ao ⟨gN,gE,a,rfl,rfl,rfl,D,A,h3,y⟩];simp only[aF];rw[uM];rfl
 .rcases aeH q with h|⟨h,F⟩
  .cases h
  rw[EX]at F;omega
 grind[WB,pc]
def q8:cy af 8=true:=by kernel_rfl
def q9:cy af 9=true:=by kernel_rfl
def q10:cy af 10=true:=by kernel_rfl
def q11:cy af 11=true:=by kernel_rfl
def I1:cy af 12=true:=by kernel_rfl
def Uc:cy af 13=true:=by kernel_rfl
def q14:cy af 14=true:=by kernel_rfl
def q15:cy af 15=true:=by kernel_rfl
abbrev b4(zT zE:List (Int×Int))(rl:List nI)(dN:List Int)(dE:List (Int×Int×Int))(tn te:aS):bI:=[(1,[.sl (zT.map lR) none,.sl (zE.map lR) none,.sl (rl.map pF) none,.sl (dN.map c8) none,.sl (dE.map mr) none]),(2,[.sl [] (some 4),.sl [] (some 7)]),(4,[.sl [] (some 5),.sl [] (some 3)]),(6,[.sl tn none,.sl te none])]
abbrev t4(rl:List nI)(R:List RU)(i:Int):VT:=[(1,.ptr 0 1 0),(2,.ptr 0 2 0),(4,.ptr 0 4 0),(6,.ptr 0 6 0),(8,.sl (R.map RU.c) (some 25)),(67,.sl (rl.map pF) none),(68,eI rl.length),(69,eI i)]
abbrev Qp(tn te:aS)(rs:ae)(u:List ae)(b:Bool):bZ:=(.ret,[(2,.ptr 0 2 0),(3,rs),(4,.ptr 0 4 0),(5,eB b)],(aH [(2,[.sl tn none,.sl te none]),(4,u)] []))
theorem arc{rl:List nI}{tn:aS}{x:nI}(D:rl[i]? =some x)(F:x.1.length>2\/x.2.1.length>2\/x.2.2.2.length>3):
 aJ af gl (VW gl bV) 169 ve (t4 rl R i) (aH (b4 zT zE rl dN dE tn te) [])=some (Qp tn te (.sl [] none) [.sl [] (some 5),.sl [] (some 3)] false):=by
 have hi:i<rl.length:=(mR.1 D).1;have h:((i:Int)<(rl.length:Int))=True:=dw (by omega);have q:(rl.map pF)[i]? =some (pF x):=by grind
 by_cases y:(x.1.length:Int)>2;.simp+decide only[ve,VB,lk,aB,↓reduceIte,Nat.reduceBEq,Nat.reduceAdd,fD,fM,fO,ft,fo,eM,cm,dh,dC,dW,cM,je,aF,B3,HI,Fo,JA,h,aY q,dV y]
 .by_cases A:(x.2.1.length:Int)>2;.simp+decide only[ve,VB,lk,aB,↓reduceIte,Nat.reduceBEq,Nat.reduceAdd,fD,fM,fO,ft,fo,eM,cm,dh,dC,dW,cM,je,aF,B3,HI,Fo,JA,h,aY q,cX y,dV A]
  have h3:(x.2.2.2.length:Int)>3:=by omega
  simp+decide only[ve,VB,lk,aB,↓reduceIte,Nat.reduceBEq,Nat.reduceAdd,fD,fM,fO,ft,fo,eM,cm,dh,dC,dW,cM,je,aF,B3,HI,Fo,JA,h,aY q,cX y,cX A,dV h3]
def ayT{lN:List Int}{lE:List Ed}{rN:List Int}{rE:List Ed}{kN kE iN iE:List Int}:Hy (rU lN lE rN rE kN kE iN iE):=⟨rfl,rfl,rfl⟩
def axa{c0 c1 c2 c3 c4 c5 c6 c7 x8 c9 ac q h ab Z Y M L J OE G F D A y:ae}:jt true 2 [c0,c1,c2,c3,c4,c5,c6,c7,x8,c9,ac,q,h,ab,Z,Y,M,L,J,OE,G,F,D,A,y] 11=some (.agg [q,h]):=rfl
theorem amy{rl:List nI}{tn:aS}(F:sh tn te)(hR:R.length<=1000)(ag:rl.length<=3){x:nI}(hx:rl[i]? =some x)(M:yS x)(hb:¬(x.1.length>2\/x.2.1.length>2\/x.2.2.2.length>3)):
 ∃r,sV tn.length te.length r/\aJ af gl (VW gl bV) 169 ve (t4 rl R i) (aH (b4 zT zE rl dN dE tn te) [])=some (.normal,t4 rl (R++[r]) ((i+1:Nat):Int),(aH (b4 zT zE rl dN dE tn te) [])):=by
 have hi:i<rl.length:=(mR.1 hx).1;have Y:((i:Int)<(rl.length:Int))=True:=dw (by omega);have A:(rl.map pF)[i]? =some (pF x):=by grind
 have h1:¬(x.1.length:Int)>2:=by omega
 have h2:¬(x.2.1.length:Int)>2:=by omega
 have h3:¬(x.2.2.2.length:Int)>3:=by omega
 have ai:=F.nd.1;have aj:=F.e5;obtain⟨gN,gE,e8,h,g2,g3,g4⟩:=agl (gl:=gl) F (zn:=x.1) (ze:=x.2.1) (most:=2) M.1 M.2.1 (by omega) (by omega) (by decide);have e8:∀S,VW gl bV 8 [iK tn te,.sl (x.1.map c8) none,.sl (x.2.1.map mr) none,.sc (.int .i64 2)] S=some (kv gN gE,S,false):=e8;obtain⟨kE,e9,J,k2⟩:=atd (gl:=gl) (gN:=gN) (gE:=gE) (a:=x.2.2.1|||kb gN.length) (by omega) (by omega) (λ e A=>⟨(h.e e A).2.1,(h.e e A).2.2⟩) (atB g2);have hl:=ahl gN.length;obtain⟨ev,ab⟩:=aqN (gl:=gl) (gN:=gN) (gE:=gE) (pN:=nW gN.length) (pE:=kE) (λ v q=>by have:=h.n v q;omega) (λ y L=>by have:=h.e y L;omega) (by omega) (by omega) (λ v q=>FQ.1 q) J (by omega) (by omega);obtain⟨rN,rE,a,b,ad,r1,r2,r3,r4⟩:=w10 (gl:=gl) (base:=bV) (gN:=gN) (gE:=gE) (pE:=kE) (by omega) (by omega) J (λ e A=>⟨(h.e e A).2.1,(h.e e A).2.2⟩) ab;have gk:An tn.length te.length rN rE:=⟨λ v q=>h.n v (r2 v q),λ y L=>by obtain⟨⟨e,G,m2⟩,m3,m4⟩:=r4 y L;have:=h.e e G;grind⟩
 obtain⟨Z,hE,iN,iE,ac,G,m2,m3,m4,m5,m6,m7⟩:=amU (gl:=gl) F gk (by omega) (by omega) (zn:=x.2.2.2) M.2.2 (by omega);refine⟨rU gN gE Z hE (nW gN.length) kE iN iE,⟨⟨_,_,_,_,_,_,_,_,rfl⟩,h,G,g2,by show gE.length<=2;omega,m2,m3,λ v q=>FQ.1 q,J,m4,m5,by show(nW gN.length).length<=2;omega,by show kE.length<=2;omega,by show iN.length<=2;omega,by show iE.length<=2;omega,by show iN.length<=(nW gN.length).length;omega⟩,?_⟩;have hs:iO (4-(gN.length:Int)):=by unfold iO;omega
 have D:∀st,iG st 25 (.sl (R.map RU.c) (some 25)) (.sl [(rU gN gE Z hE (nW gN.length) kE iN iE).c] (some 25))=some (.sl ((R++[rU gN gE Z hE (nW gN.length) kE iN iE]).map RU.c) (some 25)):=λ st=>by rw[lZ (by grind) rfl];simp
 simp only[rU,RU.c]at D;simp+decide only[ve,VB,lk,aB,↓reduceIte,Nat.reduceBEq,Nat.reduceAdd,fD,fM,fO,ft,fo,eM,cm,dh,dC,dW,cM,je,aF,B3,HI,Fo,abb,agY,adH,Wo,agL,ae5,Y,aY A,cX h1,cX h2,cX h3,aI q8,e8,agC hs,apA g2,afK,aI q9,e9,aI q10,ad,aI q11,ac,GM,GA,U3,axa,D,gW (show i<=4611686018427387904 by omega)];rfl
abbrev x4(rl:List nI)(R:List RU):bZ->bZ:=id
theorem ajH{zT zE:List (Int×Int)}{rl:List nI}{dN:List Int}{dE:List (Int×Int×Int)}{tn:aS}(L:sh tn te)(y:rl.length<=3)(M:∀x∈rl,yS x):∀(k i:Nat) (R:List RU),i+k=rl.length->R.length=i->(∀r∈R,sV tn.length te.length r)->
 (∃A,(∀r∈A,sV tn.length te.length r)/\A.length<=3/\aJ af gl (VW gl bV) 169 wL (t4 rl R i) (aH (b4 zT zE rl dN dE tn te) [])=some (.exit 2,t4 rl A (rl.length:Int)++[(70,eB false)],(aH (b4 zT zE rl dN dE tn te) [])))\/
 aJ af gl (VW gl bV) 169 wL (t4 rl R i) (aH (b4 zT zE rl dN dE tn te) [])=some (Qp tn te (.sl [] none) [.sl [] (some 5),.sl [] (some 3)] false):=by
 intro k;induction k with
 |zero=>
  intro i R hi G h;have hi:i=rl.length:=by omega
  subst hi;left;refine⟨R,h,by omega,?_⟩;rw[afU];simp+decide only[VB,lk,aB,↓reduceIte,Nat.reduceBEq,Nat.reduceAdd,fD,fM,fO,ft,fo,eM,cm,dh,dC,dW,cM,je,aF];simp+decide only[ve,VB,lk,aB,↓reduceIte,Nat.reduceBEq,Nat.reduceAdd,fD,fM,fO,ft,fo,eM,cm,dh,dC,dW,cM,je,aF,B3,jT]
 |succ k J=>
  intro i R hi G h;have D:rl[i]? =some rl[i]:=cW (by omega);have e:aJ af gl (VW gl bV) 169 wL (t4 rl R i) (aH (b4 zT zE rl dN dE tn te) [])=mY (aJ af gl (VW gl bV) 169 wL) (aJ af gl (VW gl bV) 169 ve (t4 rl R i) (aH (b4 zT zE rl dN dE tn te) [])):=by rw[afU];simp+decide only[VB,lk,aB,↓reduceIte,Nat.reduceBEq,Nat.reduceAdd,fD,fM,fO,ft,fo,eM,cm,dh,dC,dW,cM,je,aF]
  by_cases F:rl[i].1.length>2\/rl[i].2.1.length>2\/rl[i].2.2.2.length>3;.right;rw[e,arc D F];rfl
  obtain⟨r,Z,Y⟩:=amy (gl:=gl) (zT:=zT) (zE:=zE) (dN:=dN) (dE:=dE) L (R:=R) (by omega) y D (M _ (xC _)) F;rw[e,Y,BX];exact J (i+1) (R++[r]) (by omega) (by simp[G]) (λ q hq=>by grind[List.mem_singleton])
def sV.pA{D ne:Nat}{r:RU}(h:sV D ne r):zg r:=by have F:=h.kN;have y:=h.gl.e;have A:=h.gr.e;obtain⟨lN,lE,rN,rE,kN,kE,iN,iE,rfl⟩:=h.ex;exact⟨h.a1,h.a2,λ e q=>⟨(y e q).2.1.1,(y e q).2.1.2,(y e q).2.2⟩,F,h.ik,by have:=h.a3;omega,by have:=h.a4;omega,λ e q=>⟨(A e q).2.1.1,(A e q).2.1.2,(A e q).2.2⟩,by have:=h.b2;omega,by have:=h.b4;omega,by have:=h.b1;omega,ayT⟩
structure agJ (gl:aM) (tn te:aS) (R:List RU) (E:List El) (V:List Oc):Prop where
 ex:∃lN lE M,E=M.E/\V=M.V/\St R (fc lN lE) 8 M/\lN.length+lE.length<=200/\(∀S,VW gl bV 20 [iK tn te,ll R] S=some (eI 0,S,false))/\(∀S,VW gl bV 30 [kv lN lE] S=some (eI 0,S,false))/\(∀S,VW gl bV 31 [iK tn te,kv lN lE] S=some (eB true,S,false))
 ru:∀r∈R,zg r
 r3:R.length<=3
def Rs(gl:aM)(w:List ae):Prop:=∃tn te R E V b,w=[iK tn te,ll R,o9 E V,eB b]/\(b=true->agJ gl tn te R E V)
abbrev T4(rs:ae)(b:Bool):VT:=[(2,.ptr 0 2 0),(3,rs),(4,.ptr 0 4 0),(5,eB b)]
abbrev S4(tn te:aS)(u:List ae):aq:=(aH [(2,[.sl tn none,.sl te none]),(4,u)] [])
def alx(hT:AE gl){zT zE:List (Int×Int)}{rl:List nI}{dN:List Int}{dE:List (Int×Int×Int)}{tn:aS}(G:sh tn te)(ag:rl.length<=3)(hd:∀x∈rl,yS x)(hN:∀v∈dN,B8 v)(hE:∀p∈dE,vK p)(lN:dN.length<=4)(lE:dE.length<=4):
 ∃T2 bU,aJ af gl (VW gl bV) 169 R4 [(1,.ptr 0 1 0),(2,.ptr 0 2 0),(4,.ptr 0 4 0),(6,.ptr 0 6 0)] (aH (b4 zT zE rl dN dE tn te) [])=some (.ret,T2,bU)/\∃l,jC bU T2 F4.r=some l/\Rs gl (l.map λ v=>bD (jw v)):=by
 have ak:=G.nd.1;have al:=G.e5;rcases ajH (gl:=gl) (zT:=zT) (zE:=zE) (dN:=dN) (dE:=dE) G ag hd rl.length 0 [] (by omega) rfl (λ r h=>(by cases h))with⟨R,hR,A,hL⟩|hL
 .have q:aJ af gl (VW gl bV) 169 wL [(1,.ptr 0 1 0),(2,.ptr 0 2 0),(4,.ptr 0 4 0),(6,.ptr 0 6 0),(8,.sl [] (some 25)),(67,.sl (rl.map pF) none),(68,eI rl.length),(69,eI 0)] (aH (b4 zT zE rl dN dE tn te) [])=some (.exit 2,[(1,.ptr 0 1 0),(2,.ptr 0 2 0),(4,.ptr 0 4 0),(6,.ptr 0 6 0),(8,.sl (R.map RU.c) (some 25)),(67,.sl (rl.map pF) none),(68,eI rl.length),(69,eI (rl.length:Int)),(70,eB false)],(aH (b4 zT zE rl dN dE tn te) [])):=hL;obtain⟨gN,gE,L,g1,g2,g3,g4⟩:=agl (gl:=gl) G (zn:=dN) (ze:=dE) (most:=4) hN hE (by omega) (by omega) (by decide);have L:∀S,VW gl bV 8 [iK tn te,.sl (dN.map c8) none,.sl (dE.map mr) none,.sc (.int .i64 4)] S=some (kv gN gE,S,false):=L;obtain⟨er,F⟩:=akg (gl:=gl) G hR A;obtain⟨bl,J⟩:=ayK (gl:=gl) G hR A;obtain⟨ev,ad⟩:=at5 (gl:=gl) G hR A;obtain⟨eg,ac⟩:=ayu (gl:=gl) (gN:=gN) (gE:=gE) (λ v hv=>by have:=g1.n v hv;omega) (λ y hy=>by have:=g1.e y hy;omega) (by omega) (by omega);obtain⟨bp,ab⟩:=aqn (gl:=gl) G g1 (by omega) (by omega);have Y:∀r∈R,zg r:=λ r h=>(hR r h).pA
  obtain⟨v,D,hv⟩:=w14 (gl:=gl) (base:=bV) aee (Yg hT) QA Y A (lN:=gN) (lE:=gE) (by omega) ad ac ab (most:=8) (by decide);have D:∀S,VW gl bV 14 [iK tn te,ll R,kv gN gE,.sc (.int .i64 8)] S=some (v,S,false):=D;by_cases h1:er=0
  case neg=>
   refine⟨T4 (.sl [] none) false,S4 tn te [.sl [] (some 5),.sl [] (some 3)],?_,[iK tn te,.sl [] none,.agg [.sl [] none,.sl [] none],eB false],?_,⟨tn,te,[],[],[],false,rfl,λ h=>by cases h⟩⟩;.simp+decide only[R4,VB,lk,aB,↓reduceIte,Nat.reduceBEq,Nat.reduceAdd,fD,fM,fO,ft,fo,eM,cm,dh,dC,dW,cM,je,aF,A8,Bl,CS,C6,KW,q,aI q8,L,aI I1,F,cX h1]
   rfl
  subst h1;cases bl
  .refine⟨T4 (.sl [] none) false,S4 tn te [.sl [] (some 5),.sl [] (some 3)],?_,[iK tn te,.sl [] none,.agg [.sl [] none,.sl [] none],eB false],?_,⟨tn,te,[],[],[],false,rfl,λ h=>by cases h⟩⟩;.simp+decide only[R4,VB,lk,aB,↓reduceIte,Nat.reduceBEq,Nat.reduceAdd,fD,fM,fO,ft,fo,eM,cm,dh,dC,dW,cM,je,aF,A8,Bl,CS,C6,KW,q,aI q8,L,aI I1,F,aI Uc,J]
   rfl
  rcases hv with⟨e,he,rfl⟩|⟨rfl,rfl,rfl,M,Z,rfl⟩
  .refine⟨T4 (ll R) false,S4 tn te [.sl [] none,.sl [] none],?_,[iK tn te,ll R,o9 [] [],eB false],?_,⟨tn,te,R,[],[],false,rfl,λ h=>by cases h⟩⟩;.simp+decide only[R4,VB,lk,aB,↓reduceIte,Nat.reduceBEq,Nat.reduceAdd,fD,fM,fO,ft,fo,eM,cm,dh,dC,dW,cM,je,aF,A8,Bl,CS,C6,No,JT,q,aI q8,L,aI I1,F,aI Uc,J,aI q14,D,GM,GA,cX he]
   rfl
  have ai:∀x∈M.V,x.no.length<=1000/\x.ed.length<=1000:=λ x hx=>by obtain⟨r,hr,h1,h2⟩:=(Z.qB.oc x hx).ru;have ro:=Z.qB.ro r (ni hr);have:=ro.ln;have:=ro.le;omega
  obtain⟨b,aj⟩:=apT (gl:=gl) (base:=bV) (E:=M.E) (V:=M.V) (by have:=Z.ml;omega) Z.len ai;refine⟨T4 (ll R) b,S4 tn te [.sl (M.E.map El.c) none,.sl (M.V.map Oc.c) none],?_,[iK tn te,ll R,o9 M.E M.V,eB b],?_,⟨tn,te,R,M.E,M.V,b,rfl,λ _=>⟨⟨gN,gE,M,rfl,rfl,Z,by omega,ad,ac,ab⟩,Y,A⟩⟩⟩;.simp+decide only[R4,VB,lk,aB,↓reduceIte,Nat.reduceBEq,Nat.reduceAdd,fD,fM,fO,ft,fo,eM,cm,dh,dC,dW,cM,je,aF,A8,Bl,CS,C6,No,JT,q,aI q8,L,aI I1,F,aI Uc,J,aI q14,D,GM,GA,aI q15,aj]
  rfl
 .have q:aJ af gl (VW gl bV) 169 wL [(1,.ptr 0 1 0),(2,.ptr 0 2 0),(4,.ptr 0 4 0),(6,.ptr 0 6 0),(8,.sl [] (some 25)),(67,.sl (rl.map pF) none),(68,eI rl.length),(69,eI 0)] (aH (b4 zT zE rl dN dE tn te) [])=some (Qp tn te (.sl [] none) [.sl [] (some 5),.sl [] (some 3)] false):=hL;refine⟨T4 (.sl [] none) false,S4 tn te [.sl [] (some 5),.sl [] (some 3)],?_,[iK tn te,.sl [] none,.agg [.sl [] none,.sl [] none],eB false],?_,⟨tn,te,[],[],[],false,rfl,λ h=>by cases h⟩⟩;.simp+decide only[R4,VB,lk,aB,↓reduceIte,Nat.reduceBEq,Nat.reduceAdd,fD,fM,fO,ft,fo,eM,cm,dh,dC,dW,cM,je,aF,A8,Bl,q]
  rfl
end
section
open Go.Proofs
variable{gl:aM}
def R3:CC:=.seq (.ak OB (some ([5,6,7,9],[5,7]))) (.seq (.ak PC (some ([5,6,7,9,10],[5,7,10]))) (.seq (.seq (.ak Ow (some ([5,6,9,10,40,41,42],[5,10]))) (.block 0 (Df))) (.seq (.ak Rk (some ([4],[]))) (.ret))))
def AI(k:Nat)(x:El)(o:List El):Option (List El⊕bZ):=if o.length<=1000 then some (.inl (if x.ev<(k:Int)then o++[x]else o))else none
def Ug:∀{l o:List El},o.length+l.length<=1000->bP (AI k) l o=some (.inl (o++l.filter λ y=>decide (y.ev<(k:Int))))
 |[],o,_=>by simp[bP]
 |x::l,o,h=>by
  simp only[cD]at h;simp only[bP,AI,ao (show o.length<=1000 by omega)];by_cases q:x.ev<(k:Int);.rw[ao q,Ug (by simp;omega),List.filter_cons_of_pos (by simp[q])];simp
  rw[aj q,Ug (by omega),List.filter_cons_of_neg (by simp[q])]
abbrev t3(R:List RU)(E:List El)(k i:Nat):VT:=[(5,.ptr 0 5 0),(6,ll R),(9,eI k),(10,.ptr 0 10 0),(40,.sl (E.map El.c) none),(41,eI E.length),(42,eI i)]
abbrev s3(tn te:aS)(v:aS)(o:List El):aq:=(aH [(5,[.sl tn none,.sl te none]),(10,[.sl (o.map El.c) (some 5),.sl v none])] [])
def bgL{tn:aS}{E r:List El}{v:aS}(M:E.length<=1000)(h:bP (AI k) E []=some (.inl r)):
 aJ af gl (VW gl bV) 61 Df (t3 R E k 0) (s3 tn te v [])=some (.exit 0,t3 R E k E.length++[(43,eB false)],s3 tn te v r):=by
 have L:=pg (P:=af) (gl:=gl) (Z7:=VW gl bV) (n:=61) (l:=E) (C:=Df) (B:=C5) (f:=AI k)
  (TT:=λ i _=>t3 R E k i) (ST:=λ o=>s3 tn te v o)
  (X:=λ o=>(.exit 0,t3 R E k E.length++[(43,eB false)],s3 tn te v o)) ?_ ?_ ?_ [] _ h
 .exact L
 .intro i s;rw[alm];simp+decide only[VB,lk,aB,↓reduceIte,Nat.reduceBEq,Nat.reduceAdd,t3,s3]
 .intro i o x hi J;have y:((i:Int)<(E.length:Int))=True:=dw (by omega);have G:(E.map El.c)[i]? =some x.c:=by rw[bM,J];rfl
  have q:=gW (P:=af) (t:=3) (show i<=4611686018427387904 by omega);by_cases D:o.length<=1000
  .have F:∀st,iG st 5 (.sl (o.map El.c) (some 5)) (.sl [[eB x.ed,eI x.ty,eI x.fr,eI x.to,eI x.ev]] (some 5))=some (.sl ((o++[x]).map El.c) (some 5)):=λ st=>by rw[lZ (by simp only[aF,cD,dG];omega) rfl];simp[El.c]
   by_cases A:x.ev<(k:Int);.simp only[AI,ao D,ao A];simp+decide only[C5,VB,lk,aB,↓reduceIte,Nat.reduceBEq,Nat.reduceAdd,fD,fM,fO,ft,fo,eM,cm,dh,dC,dW,cM,je,aF,Lm,O3,Sb,Ud,Ra,t3,s3,y,aY G,El.c,dV A,F,q]
   simp only[AI,ao D,aj A];simp+decide only[C5,VB,lk,aB,↓reduceIte,Nat.reduceBEq,Nat.reduceAdd,fD,fM,fO,ft,fo,eM,cm,dh,dC,dW,cM,je,aF,Lm,O3,Sb,Ud,Ra,t3,s3,y,aY G,El.c,cX A,q]
  simp only[AI,aj D]
 .intro s;refine⟨?_,λ h=>by cases h⟩;simp+decide only[C5,VB,lk,aB,↓reduceIte,Nat.reduceBEq,Nat.reduceAdd,fD,fM,fO,ft,fo,eM,cm,dh,dC,dW,cM,je,aF,Lm,jT,t3,s3]
def apw{a b:Nat}(q:0<b):dn af .rem t (eI (a:Int)) (eI (b:Int))=some (eI ((a%b:Nat):Int)):=by rw[nw];have h:cV af .rem t (.int .i64 (a:Int)) (.int .i64 (b:Int))=_:=Sz (by omega);rw[h,aBb (by omega)];show some _=_;rfl
def aAN(h:n<=255):IntKind.wrap .i64 (n:Int)=(n:Int):=Ap (by unfold iO;omega)
def arR{l:List Oc}:fR 3 (l.map Oc.c)=true:=by
 induction l with
 |nil=>rfl
 |cons a l h=>exact h
def q6:cy af 6=true:=by kernel_rfl
def aqC(hT:AE gl){tn te:aS}{R:List RU}{E:List El}(hm:agJ gl tn te R E V)(hn:n<=255):
 aJ af gl (VW gl bV) 61 R3 [(1,.sc (.int .u8 (n:Int))),(5,.ptr 0 5 0),(6,ll R),(7,.ptr 0 7 0)] (aH [(5,[.sl tn none,.sl te none]),(7,[.sl (E.map El.c) none,.sl (V.map Oc.c) none])] [])=some (.ret,[(4,eB true)],(aH [] [])):=by
 obtain⟨⟨lN,lE,N,rfl,rfl,F,hl,Z,Y,L⟩,ab,ad⟩:=hm;have ac:N.V.length<=8:=F.ml;have ag:N.E.length<=200:=F.len;obtain⟨k,D⟩:∃k,k=n%(N.V.length+1):=⟨_,rfl⟩;have hk:k<=N.V.length:=by have:=Nat.mod_lt n (show 0<N.V.length+1 by omega);omega
 obtain⟨M,m,h1,h2,h3,y,h5,J⟩:=xg F hk;have ai:M.E.length<=N.E.length:=by rw[h3];exact aiM _ _
 have J:bP (r8 (fc lN lE++m)) (N.V.take k) ⟨R,fc lN lE,[],[]⟩=some (.inl M):=by rw[<-y,<-h2];exact J
 have e6:∀S,VW gl bV 6 [iK tn te,ll R,o9 (fc lN lE++m) (N.V.take k)] S=some (eB true,S,false):=λ S=>w6 (gl:=gl) (base:=bV) aee (Yg hT) ajW h5 (by rw[<-y];omega) (by rw[n8];omega) Z Y L J y
 rw[<-y,h3]at e6;have hb:=Ug (k:=k) (l:=N.E) (o:=[]) (by simp only[dG];omega);rw[jS]at hb;have G:=bgL (gl:=gl) (tn:=tn) (te:=te) (R:=R) (v:=(N.V.take k).map Oc.c) (k:=k) (by omega) hb;have G:aJ af gl (VW gl bV) 61 Df [(5,.ptr 0 5 0),(6,ll R),(9,eI k),(10,.ptr 0 10 0),(40,.sl (N.E.map El.c) none),(41,eI N.E.length),(42,eI 0)] (aH [(5,[.sl tn none,.sl te none]),(10,[.sl [] (some 5),.sl ((N.V.take k).map Oc.c) none])] [])=_:=G;have h:∀t,dn af .rem t (eI (n:Int)) (eI ((N.V.length+1:Nat):Int))=some (eI (k:Int)):=λ t=>by rw[apw (by omega),D]
 have q:=gW (P:=af) (t:=3) (show N.V.length<=4611686018427387904 by omega);have A:nf (some 3) false (.sl (N.V.map Oc.c) none) none (some (.sc (.int .i64 (k:Int))))=some (.sl ((N.V.take k).map Oc.c) none):=by rw[EU (by rw[aF];omega) arR,<-BG]
 simp+decide only[R3,VB,lk,aB,↓reduceIte,Nat.reduceBEq,Nat.reduceAdd,fD,fM,fO,ft,fo,eM,cm,dh,dC,dW,cM,je,aF,ag4,afB,OB,PC,Ow,Rk,aAN hn,q,h,A,uC,uu,uR,uy,G,aI q6,e6]
end
section
open Go.Proofs
variable{T:Tr aa}{a b:aW}{Z8:List Oper}
variable{P:Program}{ng n:Nat}
def zx(a b:aW):Prop:=∀f args H r,a f args H=some r->b f args H=some r
def ayS(h:zx a b){f:FuncId}{H:ah}(e:ir P a f args H=some r):ir P b f args H=some r:=by
 unfold ir at e⊢;cases q:P.funcs[f]?;.rw[q]at e;cases e
 rename_i fn;rw[q]at e;simp only at e⊢;split at e;.exact h _ _ _ _ e
 cases e
def afw(h:zx a b){H:ah}{o:Op}(e:bK P ng a T H o=some r):bK P ng b T H o=some r:=by
 rcases DV o with q|q|q|q
 .simp only[bK,q]at e⊢;exact e
 .simp only[bK,q]at e⊢;exact e
 .simp only[bK,q]at e⊢;exact e
 simp only[bK,q]at e⊢;cases o with
 |call c=>
  simp only[r9,qQ]at e⊢;split at e
  .unfold tw at e⊢;split at e;.exact ayS h e
   cases e
  .exact e
  cases e
 |_=>exact e
def SQ(h:zx a b):∀{l:List Oper} {T:Tr aa} {H:ah} {r:Tr aa×ah},eQ P ng a n Z8 l T H=some r->eQ P ng b n Z8 l T H=some r
 |[],_,_,_,e=>e
 |o::l,T,H,r,e=>by
  rw[dB]at e⊢;by_cases y:bJ Z8 T o=true
  .rw[ao y]at e⊢;cases q:bK P ng a T H o.op;.rw[q]at e;cases e
   rename_i x;rw[q]at e;rw[afw h q];exact SQ h e
  rw[aj y]at e⊢;exact SQ h e
def U4(h:zx a b){q:Nat->Nat}:∀{l:List Oper} {i:Nat} {S:eX} {T:Tr aa} {H:ah} {r:eX×Tr aa×ah},gF P ng a n Z8 q l i S T H=some r->gF P ng b n Z8 q l i S T H=some r
 |[],_,_,_,_,_,e=>e
 |o::l,i,S,T,H,r,e=>by
  rw[RC]at e⊢;by_cases A:bJ Z8 T o=true
  .rw[ao A]at e⊢;cases y:bK P ng a T H o.op;.rw[y]at e;cases e
   rename_i x;rw[y]at e;rw[afw h y];simp only at e⊢;cases D:ib (q i) i T o.op S x;.rw[D]at e;cases e
   rename_i S';rw[D]at e;exact U4 h e
  rw[aj A]at e⊢;exact U4 h e
def anh(h:zx a b){Z8:Array Oper}{H:ah}{d:Bool}{r:Tr aa×ah}(e:jn P ng a n Z8 T H d=some r):jn P ng b n Z8 T H d=some r:=by
 unfold jn at e⊢;cases d;.exact SQ h e
 simp only at e⊢;cases q:gF P ng a n Z8.toList (cO Z8) Z8.toList 0 ⟨[],[],[]⟩ T H;.rw[q]at e;cases e
 rename_i x;rw[q]at e;rw[U4 h q];exact e
def ajF(h:zx a b):∀(m:Nat) (c:Code) (T:Tr aa) (H:ah) (r:mI),aZ P ng a n m c T H=some r->aZ P ng b n m c T H=some r:=by
 intro m;induction m with
 |zero=>intro c T H r e;cases e
 |succ m A=>
  intro c T H r e;cases c with
  |seq x y=>
   have e:iL (aZ P ng a n m y) (aZ P ng a n m x T H)=some r:=e;show iL (aZ P ng b n m y) (aZ P ng b n m x T H)=some r;cases q:aZ P ng a n m x T H;.rw[q]at e;cases e
   rename_i s;rw[q]at e;rw[A x T H s q];obtain⟨ex,D,F⟩:=s;cases ex with
   |normal=>exact A y D F r e
   |exit id=>exact e
   |ret=>exact e
  |cond z x y=>
   have e:mq (aZ P ng a n m x T H) (aZ P ng a n m y T H) (aU ng T z)=some r:=e;show mq (aZ P ng b n m x T H) (aZ P ng b n m y T H) (aU ng T z)=some r;generalize aU ng T z=o at e⊢;unfold mq at e⊢;split at e;.exact A x T H r e
   .exact A y T H r e
   cases e
  |block id x=>
   have e:kR id (aZ P ng a n m x T H)=some r:=e;show kR id (aZ P ng b n m x T H)=some r;cases q:aZ P ng a n m x T H;.rw[q]at e;cases e
   rename_i s;rw[q]at e;rw[A x T H s q];exact e
  |loop x=>
   have e:iL (aZ P ng a n m (.loop x)) (aZ P ng a n m x T H)=some r:=e;show iL (aZ P ng b n m (.loop x)) (aZ P ng b n m x T H)=some r;cases q:aZ P ng a n m x T H;.rw[q]at e;cases e
   rename_i s;rw[q]at e;rw[A x T H s q];obtain⟨ex,D,F⟩:=s;cases ex with
   |normal=>exact A (.loop x) D F r e
   |exit id=>exact e
   |ret=>exact e
  |skip=>exact e
  |region id Z8 d=>
   have e:px (jn P ng a n Z8 T H d)=some r:=e;show px (jn P ng b n Z8 T H d)=some r;cases q:jn P ng a n Z8 T H d;.rw[q]at e;cases e
   rename_i s;rw[q]at e;rw[anh h q];exact e
  |exit id=>exact e
  |ret=>exact e
  |_=>cases e
def fI.le(h:zx a b){f:FuncId}{H:ah}(e:fI P ng a f args H r):fI P ng b f args H r:=by obtain⟨fn,c,m,x,T,l,A,y,h3,q⟩:=e;exact⟨fn,c,m,x,T,l,A,y,ajF h _ _ _ _ _ h3,q⟩
def aiS:zx (λ _ _ _=>none) b:=λ _ _ _ _ e=>by cases e
def afz{gl:aM}{pol:FuncId->eV}{bset:FuncId->Bool}{base:eH}{acall:Nat->aW}(L:∀m,mz ng gl (ji P pol gl bset base m) (acall m)){pf:eV}{c:Code}{Z:CC}(hm:lU P pf c=some Z)
 {T:VT} {st:aq} {e:eE} {T2:VT} {bU:aq} (y:aJ P gl (vω P pol gl bset base) n Z T st=some (e,T2,bU)):
 ∃M,∀m,M<=m->∀{D:Nat} {G:Gh} {Y:Tr aa} {H:ah},Ok ng gl D G T Y st H->∀{Q:eE->Tr aa->ah->Prop},(∀h q A,Ok ng gl D A T2 h bU q->cw D G st H A bU q (TW D bU.w) tZ->Q e h q)->W P ng (acall m) n c Y H Q:=by
 rw[<-JI hm]at y;obtain⟨k,hk⟩:=FF.1 y;obtain⟨m0,h0⟩:=OD RZ _ _ _ _ _ hk;refine⟨m0,λ m J D G Y H F Q hQ=>?_⟩;obtain⟨_,h,q,A,h1,h2,h3⟩:=OH (L m) k c F (h0 m k J (be _));exact⟨k,e,h,q,h1,hQ h q A h2 h3⟩
end
section
open Go.Proofs
variable{ρ:Bx}
variable{ng:Nat}{gl:aM}
abbrev rw5(u:Nat)(a b c d e:aa):Row:=⟨[a,b,c,d,e],u,0,true,false,1⟩
def Dj{a b c e:aa}(o:jh K u (rw5 u a b c d e)):bq K.objs.get u (0+0) 1=some [a]/\bq K.objs.get u (0+1) 1=some [b]/\bq K.objs.get u (0+2) 1=some [c]/\bq K.objs.get u (0+3) 1=some [d]/\bq K.objs.get u (0+4) 1=some [e]:=⟨o.rd (by simp),o.rd (by simp),o.rd (by simp),o.rd (by simp),o.rd (by simp)⟩
def wN(H:ah)(cells:List aa)(ex:Bool)(sz:Nat):(alloc H cells ex sz).aG.get H.next=some [H.next]:=by simp only[alloc];rw[Tr.sY]
def NT{I:Im}:aA ρ I (.sl [] none) .ai:=by simp[aA,RP]
def aqc{I:Im}{b:Bool}:aA ρ I (eB b) (.bool b):=by simp[aA,lX]
def amZ:bset 7=false:=rfl
def aA5{H:ah}(h:fI af ng (λ _ _ _=>none) 7 args H r):mE af ng (aV ng) (m+1) 7 args H=some r:=by refine IG ?_ (h.le aiS);unfold aV;rw[aj (by rw[amZ];simp)]
def N8(ng:Nat)(I:Im)(args:List aa)(H:ah)(l:List ae):Prop:=∃M,∀m,M<=m->∃r,fI af ng (mE af ng (aV ng) m) 4 args H r/\Good r.2/\Fr none H r.2/\∃h q,cu I h/\cu h r.2.objs.get/\bB ρ0 h l q/\r.1=jJ q
section
variable{I:Im}{H:ah}{zT zE:List (Int×Int)}{rl:List nI}{dN:List Int}{dE:List (Int×Int×Int)}{c1 c2 c3 c4 c5:aa}
def au0(g:Good H)(hI:cu I H.objs.get)(r1:RP I (.sl (zT.map lR) none) c1)(r2:RP I (.sl (zE.map lR) none) c2)(r3:RP I (.sl (rl.map pF) none) c3)(r4:RP I (.sl (dN.map c8) none) c4)(r5:RP I (.sl (dE.map mr) none) c5)
 (hb:¬(zT.length<=6/\zE.length<=6/\rl.length<=3/\dN.length<=4/\dE.length<=4)):N8 ng I [.agg [c1,c2,c3,c4,c5]] H [iK [] [],.sl [] none,.agg [.sl [] none,.sl [] none],eB false]:=by
 refine⟨0,λ m _=>?_⟩;refine qn Tryz.func4 rfl ?_;show W af ng _ 169 _ _ _ _;have a0:aw (fH [.agg [c1,c2,c3,c4,c5]] 0 .nil) 0=.agg [c1,c2,c3,c4,c5]:=rfl;have y:(aa.agg [c1,c2,c3,c4,c5]).cells=[c1,c2,c3,c4,c5]:=rfl;have an:(aa.agg [.ai,.ai]).cells=[.ai,.ai]:=rfl;have f0:=gH g [c1,c2,c3,c4,c5] true 1;have g0:=gD g [c1,c2,c3,c4,c5] true 1;have f1:=gH g0 [.ai,.ai] true 1;have g1:=gD g0 [.ai,.ai] true 1;have f2:=gH g1 [.ai,.ai] true 1;have g3:=gD g1 [.ai,.ai] true 1;have o1:=((ic H [c1,c2,c3,c4,c5] true 1).keep f1 (by simp)).keep f2 (by simp);have o2:=(ic (alloc H [c1,c2,c3,c4,c5] true 1) [.ai,.ai] true 1).keep f2 (by simp);have o4:=ic (alloc (alloc H [c1,c2,c3,c4,c5] true 1) [.ai,.ai] true 1) [.ai,.ai] true 1;have m1:=f2.aG _ _ (f1.aG _ _ (wN H [c1,c2,c3,c4,c5] true 1) (by simp)) (by simp);have m2:=f2.aG _ _ (wN (alloc H [c1,c2,c3,c4,c5] true 1) [.ai,.ai] true 1) (by simp);have m4:=wN (alloc (alloc H [c1,c2,c3,c4,c5] true 1) [.ai,.ai] true 1) [.ai,.ai] true 1;have Z:(alloc H [c1,c2,c3,c4,c5] true 1).next=H.next+1:=rfl
 have Y:(alloc (alloc H [c1,c2,c3,c4,c5] true 1) [.ai,.ai] true 1).next=H.next+2:=rfl
 generalize ab:alloc (alloc (alloc H [c1,c2,c3,c4,c5] true 1) [.ai,.ai] true 1) [.ai,.ai] true 1=H3 at*;have ao:H3.next=H.next+3:=by rw[<-ab];rfl
 have ac:Fr none H H3:=(f0.trans f1).trans f2;rw[Z]at o2 m2;rw[Y]at o4 m4;have ap:cu I H3.objs.get:=λ u r e=>ac.row u r (hI u r e) (by simp)
 have q:=Dj o1;have n1:dD af 22 c1=some (.int .i64 (Int.ofNat zT.length)):=by have:=p9 r1 Tryz.underlying22;rw[aF]at this;exact this
 have M:dD af 22 c2=some (.int .i64 (Int.ofNat zE.length)):=by have:=p9 r2 Tryz.underlying22;rw[aF]at this;exact this
 have L:dD af 23 c3=some (.int .i64 (Int.ofNat rl.length)):=by have:=p9 r3 Tryz.underlying23;rw[aF]at this;exact this
 have J:dD af 24 c4=some (.int .i64 (Int.ofNat dN.length)):=by have:=p9 r4 Tryz.underlying24;rw[aF]at this;exact this
 have G:dD af 25 c5=some (.int .i64 (Int.ofNat dE.length)):=by have:=p9 r5 Tryz.underlying25;rw[aF]at this;exact this
 refine aO (bW (H':=H3) (λ T=>aw T 1=.ptr H.next 0/\aw T 2=.ptr (H.next+1) 0/\aw T 4=.ptr (H.next+2) 0) ?_ ?_)
 ·(repeat ((first|apply bA (br rfl)|apply bO rfl rfl rfl);simp+decide only[AB,a0,y,CK,TH,an,ab,Z,Y];rfl))
  exact bF (by simp+decide only[AB,vI])
 rintro T1 ⟨F,t2,t4⟩ k1
 refine aO (aO (bW (H':=H3) (λ T=>aw T 46=.bool true) ?_ ?_))
 .by_cases h1:Int.ofNat zT.length>6
  .have D:=dV h1
   (repeat ((first|apply bA (br rfl)|apply bO rfl rfl rfl);simp+decide only[AB,F,AT,zW,BM,Dr,Cg,pY q.1,pY q.2.1,CQ q.2.2.1,CX q.2.2.2.1,Cj q.2.2.2.2,n1,M,L,J,G,D];rfl))
   exact bF (by simp+decide only[AB])
  have D:=cX h1;by_cases h2:Int.ofNat zE.length>6
  .have e2:=dV h2
   (repeat ((first|apply bA (br rfl)|apply bO rfl rfl rfl);simp+decide only[AB,F,AT,zW,BM,Dr,Cg,pY q.1,pY q.2.1,CQ q.2.2.1,CX q.2.2.2.1,Cj q.2.2.2.2,n1,M,L,J,G,D,e2];rfl))
   exact bF (by simp+decide only[AB])
  have e2:=cX h2;by_cases h3:Int.ofNat rl.length>3
  .have e3:=dV h3
   (repeat ((first|apply bA (br rfl)|apply bO rfl rfl rfl);simp+decide only[AB,F,AT,zW,BM,Dr,Cg,pY q.1,pY q.2.1,CQ q.2.2.1,CX q.2.2.2.1,Cj q.2.2.2.2,n1,M,L,J,G,D,e2,e3];rfl))
   exact bF (by simp+decide only[AB])
  have e3:=cX h3;by_cases h4:Int.ofNat dN.length>4
  .have e4:=dV h4
   (repeat ((first|apply bA (br rfl)|apply bO rfl rfl rfl);simp+decide only[AB,F,AT,zW,BM,Dr,Cg,pY q.1,pY q.2.1,CQ q.2.2.1,CX q.2.2.2.1,Cj q.2.2.2.2,n1,M,L,J,G,D,e2,e3,e4];rfl))
   exact bF (by simp+decide only[AB])
  have e4:=cX h4;have e5:decide (Int.ofNat dE.length>4)=true:=dV (by simp only[mS]at*;omega)
  (repeat ((first|apply bA (br rfl)|apply bO rfl rfl rfl);simp+decide only[AB,F,AT,zW,BM,Dr,Cg,pY q.1,pY q.2.1,CQ q.2.2.1,CX q.2.2.2.1,Cj q.2.2.2.2,n1,M,L,J,G,D,e2,e3,e4,e5];rfl))
  exact bF (by simp+decide only[AB])
 intro T2 aj k2;have b2:=(k2 2 rfl).trans t2;have ad:=(k2 4 rfl).trans t4;refine jZ (by rw[mc,aj]) (λ _=>?_) (λ h=>by cases h);obtain⟨K4,z1,z2,z3,z4,z5⟩:=lO g3 o2 (off:=0) (new:=[.ai,.ai]) (by simp) rfl;have s1:dJ af H3 31 (.ptr (H.next+1) 0) (.agg [.ai,.ai])=some K4:=by rw[J3];exact z1
 have am:jh K4 (H.next+2) (qA (H.next+2) .ai .ai):=o4.keep z3 (by simp);obtain⟨K5,w1,w2,w3,w4,w5⟩:=lO z5 am (off:=0) (new:=[.ai,.ai]) (by simp) rfl;have s2:dJ af K4 36 (.ptr (H.next+2) 0) (.agg [.ai,.ai])=some K5:=by rw[ahR];exact w1
 refine aO (bW (H':=K5) (λ T=>aw T 2=.ptr (H.next+1) 0/\aw T 3=.ai/\aw T 4=.ptr (H.next+2) 0/\aw T 5=.bool false) ?_ ?_)
 ·(repeat ((first|apply bA (br rfl)|apply bO rfl rfl rfl);simp+decide only[AB,b2,ad,apQ,arQ,s1,s2];rfl))
  exact bF (by simp+decide only[AB,b2,ad,vI])
 rintro T3 ⟨y2,y3,y4,y5⟩ _
 have ag:=z2.keep w3 (by simp);have al:bq K5.objs.get (H.next+1) 0 2=some [.ai,.ai]:=ag.rd (by simp[ep]);have ak:bq K5.objs.get (H.next+2) 0 2=some [.ai,.ai]:=w2.rd (by simp[ep]);have A:Fr none H K5:=(ac.jE g z3 (λ f e=>by cases e;show H.next<=H.next+1;omega)).jE g w3 (λ f e=>by cases e;show H.next<=H.next+2;omega);refine oR ⟨by simp,[.agg [.ai,.ai],.ai,.agg [.ai,.ai],.bool false],?_,w5,A,K5.objs.get,[.agg [.ai,.ai],.ai,.agg [.ai,.ai],.bool false],λ u r e=>A.row u r (hI u r e) (by simp),λ _ _ e=>e,?_,rfl⟩;.show jL af K5.objs.get T3 [.cell 2 31,.tmp 3,.cell 4 36,.tmp 5]=_;simp only[jL,y2,y3,y4,y5,N7 al,arE ak]
 .have nn:∀{I:Im},bB ρ0 I [.sl [] none,.sl [] none] [.ai,.ai]:=λ {I}=>cf.2 ⟨_,_,rfl,NT,cf.2 ⟨_,_,rfl,NT,by simp only[bB]⟩⟩
  refine cf.2 ⟨_,_,rfl,?_,cf.2 ⟨_,_,rfl,NT,cf.2 ⟨_,_,rfl,?_,cf.2 ⟨_,_,rfl,aqc,by simp only[bB]⟩⟩⟩⟩;.simp only[aA];exact⟨rfl,_,rfl,nn⟩
  simp only[aA];exact⟨rfl,_,rfl,nn⟩
end
end
section
open Go.Proofs
variable{nodes:List vx}
variable{ng:Nat}{gl:aM}
noncomputable def c4R:Code:=match Tryz.f4.body with
 |some (.seq _ (.seq _ (.seq _ (.seq _ c))))=>c
 |_=>.skip
def ala:lU af (pol 4) c4R=some R4:=by kernel_rfl
def mr4:ud af Tryz.f4.results.toList=some F4.r:=by kernel_rfl
def Dh.done{tn:aS}(h:Dh nodes nodes.length tn):tn=nodes.map λ x=>vR (JF x):=by
 apply xr;intro i;rw[bM];cases q:nodes[i]?;.have:=List.getElem?_eq_none_iff.1 q;rw[ma (by rw[h.1];exact this)];rfl
 rename_i x;rw[h.2 i x q,ao (mR.1 q).1];rfl
theorem axI{a:zX}(h:TA a):Ge (RA a):=by obtain⟨F,D,h3,A,y,q,J⟩:=h;exact⟨_,_,_,_,rfl,F,D,h3,A,y,by rw[aF];exact q,λ x G=>by grind⟩
def ai1{h:List HH}(l1:1<=nodes.length)(Z:nodes.length<=6)(e5:h.length<=5)(J:∀i x,nodes[i]? =some x->SY i x)(L:∀e∈h,Tq nodes.length e):
 sh (nodes.map λ x=>vR (JF x)) (h.map NS):=by
 refine⟨by rw[aF];exact l1,⟨by rw[aF];exact Z,λ i e q=>?_⟩,by rw[aF];exact e5,λ i e q=>?_⟩
 .rw[bM]at q;cases A:nodes[i]?;.rw[A]at q;cases q
  rename_i x;rw[A]at q;cases q;obtain⟨G,F,h3,D,M⟩:=J i x A;exact⟨_,_,_,_,rfl,G,F,h3,by rw[aF];exact D,λ y hy=>by obtain⟨a,ha,rfl⟩:=eK.1 hy;exact axI (M a ha)⟩
 .rw[bM]at q;cases A:h[i]?;.rw[A]at q;cases q
  rename_i x;rw[A]at q;cases q;obtain⟨G,⟨F,h3⟩,⟨D,M⟩,Y⟩:=L x (jm A);obtain⟨n,f,t,ol,oh,il,ih⟩:=x;simp only at G F h3 D M Y;cases Y;exact⟨n,f,t,0,-1,0,-1,rfl,G,⟨F,by rw[aF];omega⟩,⟨D,by rw[aF];omega⟩,by decide,by decide,by decide,by decide⟩
section
variable{I:Im}{H:ah}{zT zE:List (Int×Int)}{rl:List nI}{dN:List Int}{dE:List (Int×Int×Int)}{c1 c2 c3 c4 c5:aa}
theorem axx(bs:∀m,mz ng gl (ji af pol gl bset bV m) (mE af ng (aV ng) m))(hT:AE gl)(bm:kJ ng gl (AN I))(g:Good H)(hI:cu I H.objs.get)
 (pT:∀p∈zT,P8 p) (pE:∀p∈zE,P8 p) (hd:∀x∈rl,yS x) (hN:∀v∈dN,B8 v) (hE:∀p∈dE,vK p)
 (r1:RP I (.sl (zT.map lR) none) c1) (r2:RP I (.sl (zE.map lR) none) c2) (r3:RP I (.sl (rl.map pF) none) c3) (r4:RP I (.sl (dN.map c8) none) c4) (r5:RP I (.sl (dE.map mr) none) c5)
 (hb:zT.length<=6/\zE.length<=6/\rl.length<=3/\dN.length<=4/\dE.length<=4):∃l,Rs gl l/\N8 ng I [.agg [c1,c2,c3,c4,c5]] H l:=by
 obtain⟨b1,b2,b3,b4,b5⟩:=hb;have a0:aw (fH [.agg [c1,c2,c3,c4,c5]] 0 .nil) 0=.agg [c1,c2,c3,c4,c5]:=rfl;have ac:(aa.agg [c1,c2,c3,c4,c5]).cells=[c1,c2,c3,c4,c5]:=rfl;have aL:(aa.agg [.ai,.ai]).cells=[.ai,.ai]:=rfl;have f0:=gH g [c1,c2,c3,c4,c5] true 1;have g0:=gD g [c1,c2,c3,c4,c5] true 1;have f1:=gH g0 [.ai,.ai] true 1;have g1:=gD g0 [.ai,.ai] true 1;have f2:=gH g1 [.ai,.ai] true 1;have g3:=gD g1 [.ai,.ai] true 1;have o1:=((ic H [c1,c2,c3,c4,c5] true 1).keep f1 (by simp)).keep f2 (by simp);have o2:=(ic (alloc H [c1,c2,c3,c4,c5] true 1) [.ai,.ai] true 1).keep f2 (by simp);have o4:=ic (alloc (alloc H [c1,c2,c3,c4,c5] true 1) [.ai,.ai] true 1) [.ai,.ai] true 1;have m1:=f2.aG _ _ (f1.aG _ _ (wN H [c1,c2,c3,c4,c5] true 1) (by simp)) (by simp);have m2:=f2.aG _ _ (wN (alloc H [c1,c2,c3,c4,c5] true 1) [.ai,.ai] true 1) (by simp);have m4:=wN (alloc (alloc H [c1,c2,c3,c4,c5] true 1) [.ai,.ai] true 1) [.ai,.ai] true 1;have aH:(alloc H [c1,c2,c3,c4,c5] true 1).next=H.next+1:=rfl
 have aE:(alloc (alloc H [c1,c2,c3,c4,c5] true 1) [.ai,.ai] true 1).next=H.next+2:=rfl
 generalize aW:alloc (alloc (alloc H [c1,c2,c3,c4,c5] true 1) [.ai,.ai] true 1) [.ai,.ai] true 1=H3 at*;have bE:H3.next=H.next+3:=by rw[<-aW];rfl
 have aX:Fr none H H3:=(f0.trans f1).trans f2;rw[aH]at o2 m2;rw[aE]at o4 m4;have bu:cu I H3.objs.get:=λ u r e=>aX.row u r (hI u r e) (by simp)
 have q5:=Dj o1;have n1:dD af 22 c1=some (.int .i64 (Int.ofNat zT.length)):=by grind[p9,Tryz.underlying22,List.length_map]
 have n2:dD af 22 c2=some (.int .i64 (Int.ofNat zE.length)):=by grind[p9,Tryz.underlying22,List.length_map]
 have n3:dD af 23 c3=some (.int .i64 (Int.ofNat rl.length)):=by grind[p9,Tryz.underlying23,List.length_map]
 have n4:dD af 24 c4=some (.int .i64 (Int.ofNat dN.length)):=by grind[p9,Tryz.underlying24,List.length_map]
 have n5:dD af 25 c5=some (.int .i64 (Int.ofNat dE.length)):=by grind[p9,Tryz.underlying25,List.length_map]
 have bB:=pU (cu.refl I) _ _ r1;obtain⟨⟨rv,K7⟩,F7,D,g7,v,w,nodes,ao,fl,M7,az,hL,hW,Z,bI,l1,l6,e5,bl,bp⟩:=auN (ng:=ng) (Z7:=λ _ _ _=>none) g3 bu pT pE r1 r2 (by omega) (by omega);simp only at D g7 az hL hW;subst az;have aK:=hL.lt g7;have ov:=hL.one;obtain⟨aP,cs,hO,aB⟩:=hL;have ow:w.eh=true:=by grind[afI]
 have bD:=D.next
 obtain⟨I7,aT,aR⟩:∃I7:Im,(∀u r,K7.objs.get u=some r->¬(r.aC<H3.next+2\/fl=some r.aC)->I7 u=some r)/\∀u r,I7 u=some r->K7.objs.get u=some r/\¬(r.aC<H3.next+2\/fl=some r.aC):=by
  refine⟨λ u=>match K7.objs.get u with|some r=>if r.aC<H3.next+2\/fl=some r.aC then none else some r|none=>none,λ u r e h=>?_,λ u r e=>?_⟩;.simp only[e,aj h]
  grind
 have a8:bR I7 4 (nodes.map vR) cs:=Pq as8 aT hO.1 aB;have ba:RP I7 (.sl (ao.map NS) none) w:=aaw amr (S:=λ f=>f<M7) (λ u r e hn=>aT u r e (λ h=>by grind)) hW
 have ht:=ai1 l1 l6 e5 bl bp;obtain⟨T2,bU,bo,l,aA,al⟩:=alx (gl:=gl) hT (zT:=zT) (zE:=zE) (rl:=rl) (dN:=dN) (dE:=dE) ht b3 hd hN hE b4 b5;refine⟨_,al,?_⟩;obtain⟨M,bt⟩:=afz bs ala bo;refine⟨max M 1,λ m hm=>?_⟩;obtain⟨k,rfl⟩:∃k,m=k+1:=⟨m- 1,by omega⟩;have c7:mE af ng (aV ng) (k+1) 7 [c1,c2] H3=some (.agg [v,w],K7):=aA5 F7;refine qn Tryz.func4 rfl ?_;show W af ng _ 169 _ _ _ _;refine aO (bW (H':=H3) (λ T=>aw T 1=.ptr H.next 0/\aw T 2=.ptr (H.next+1) 0/\aw T 4=.ptr (H.next+2) 0) ?_ ?_)
 ·(repeat ((first|apply bA (br rfl)|apply bO rfl rfl rfl);simp+decide only[AB,a0,ac,CK,TH,aL,aW,aH,aE];rfl))
  exact bF (by simp+decide only[AB,vI])
 rintro T1 ⟨t1,t2,t4⟩ k1
 have e1:decide (Int.ofNat zT.length>6)=false:=cX (by simp only[mS];omega);have e2:decide (Int.ofNat zE.length>6)=false:=cX (by simp only[mS];omega);have e3:decide (Int.ofNat rl.length>3)=false:=cX (by simp only[mS];omega);have e4:decide (Int.ofNat dN.length>4)=false:=cX (by simp only[mS];omega);have bv:decide (Int.ofNat dE.length>4)=false:=cX (by simp only[mS];omega);refine aO (aO (bW (H':=H3) (λ T=>aw T 46=.bool false) ?_ ?_))
 ·(repeat ((first|apply bA (br rfl)|apply bO rfl rfl rfl);simp+decide only[AB,t1,AT,zW,BM,Dr,Cg,pY q5.1,pY q5.2.1,CQ q5.2.2.1,CX q5.2.2.2.1,Cj q5.2.2.2.2,n1,n2,n3,n4,n5,e1,e2,e3,e4,bv];rfl))
  exact bF (by simp+decide only[AB])
 intro bJ a7 k2;have a1:=(k2 1 rfl).trans t1;have a2:=(k2 2 rfl).trans t2;have a4:=(k2 4 rfl).trans t4;refine jZ (by rw[mc,a7]) (λ h=>by cases h) (λ _=>kH ?_);have f8:=gH g7 [.ai,.ai] true 1;have g8:=gD g7 [.ai,.ai] true 1;have o6:=ic K7 [.ai,.ai] true 1;have m6:=wN K7 [.ai,.ai] true 1;generalize aQ:alloc K7 [.ai,.ai] true 1=K8 at*;have bC:K8.next=K7.next+1:=by rw[<-aQ];rfl
 obtain⟨K9,z1,bc,f9,n9,g9⟩:=lO g8 o6 (off:=0) (new:=[v,w]) (by simp) (by simp[ov,ow]);have f9:Fr (some K7.next) K8 K9:=f9;have bh:K9.aG.get K7.next=some [K7.next]:=by rw[Nf z1];exact m6
 have s9:dJ af K8 31 (.ptr K7.next 0) (.agg [v,w])=some K9:=by rw[J3];exact z1
 refine aO (bW (H':=K9) (λ T=>aw T 6=.ptr K7.next 0) ?_ ?_)
 ·(repeat ((first|apply bA (br rfl)|apply bO rfl rfl rfl);simp+decide only[AB,a1,AT,zW,pY q5.1,pY q5.2.1,jS,oq,alQ,c7,CK,aL,aQ,s9];rfl))
  exact bF (by simp+decide only[AB])
 intro T3 t6 k3;have d1:=(k3 1 rfl).trans a1;have d2:=(k3 2 rfl).trans a2;have d4:=(k3 4 rfl).trans a4;have L:fl≠some K7.next:=λ e=>by have:=aK _ e;omega
 have aN:cj K9 4 nodes.length v cs fl:=cj.keep (cj.B7 hO f8) f9 (.inr L);have ay:jh K9 K7.next (qA K7.next v w):=bc;have bb:bq K9.objs.get K7.next (0+0) 1=some [v]:=ay.rd (by simp);refine aO (aO (bW (H':=K9) (λ T=>aw T 56=.int .i64 (Int.ofNat nodes.length)/\aw T 57=.int .i64 (Int.ofNat 0)) ?_ ?_))
 ·(repeat ((first|apply bA (br rfl)|apply bO rfl rfl rfl);simp+decide only[AB,t6,EM,Ez bb,aN.read.dD Tryz.underlying28];rfl))
  exact bF ⟨by simp+decide only[AB],by simp+decide only[AB];rfl⟩
 rintro T4 ⟨a6,a5⟩ k4
 have p1:=(k4 1 rfl).trans d1;have p2:=(k4 2 rfl).trans d2;have p4:=(k4 4 rfl).trans d4;have p6:=(k4 6 rfl).trans t6;refine ku (tj (λ mm T K=>∃(i:Nat) (ap:List aa) (tn:aS),mm+i=nodes.length/\cj K 4 nodes.length v ap fl/\bR I7 4 tn ap/\Dh nodes i tn/\Fr fl K9 K/\Good K/\aw T 1=.ptr H.next 0/\aw T 2=.ptr (H.next+1) 0/\aw T 4=.ptr (H.next+2) 0/\aw T 6=.ptr K7.next 0/\aw T 56=.int .i64 (Int.ofNat nodes.length)/\aw T 57=.int .i64 (Int.ofNat i)) ?_ nodes.length _ _ ⟨0,cs,nodes.map vR,by omega,aN,a8,⟨by rw[aF],λ i x hx=>by grind⟩,Fr.refl _ _,g9,p1,p2,p4,p6,a6,a5⟩)
 rintro mm T K ⟨i,ap,tn,bG,am,a9,ad,A,gk,u1,u2,u4,u6,au,ar⟩
 have ak:=ay.keep A (λ e=>L e.symm);have ax:bq K.objs.get K7.next (0+0) 1=some [v]:=ak.rd (by simp);refine aO (bW (H':=K) (λ T=>aw T 58=.bool (decide (Int.ofNat i<Int.ofNat nodes.length))) ?_ ?_)
 ·(repeat ((first|apply bA (br rfl)|apply bO rfl rfl rfl);simp+decide only[AB,au,ar];rfl))
  exact bF (by simp+decide only[AB])
 intro T5 a3 k5;have v1:=(k5 1 rfl).trans u1;have v2:=(k5 2 rfl).trans u2;have v4:=(k5 4 rfl).trans u4;have v6:=(k5 6 rfl).trans u6;have aZ:=(k5 56 rfl).trans au;have aq:=(k5 57 rfl).trans ar;refine aO (jZ (by rw[mc,a3]) (λ Z=>kH ?_) (λ aJ=>tX ?_))
 .have Z:i<nodes.length:=by grind
  have hx:nodes[i]? =some nodes[i]:=cW Z;have bj:tn[i]? =some (vR nodes[i]):=by rw[ad.2 i _ hx,aj (Nat.lt_irrefl _)]
  have aI:∀{t:TypeId},cV af .add t (.int .i64 (Int.ofNat i)) (.int .i64 1)=some (.int .i64 (Int.ofNat (i+1))):=wu (by omega);obtain⟨x,off,K',y1,y2,y3,y4,y5⟩:=cj.aAK (P:=af) gk am (i:=i) Z (k:=2) (by decide) (c:=.bool false) rfl Tryz.underlying28 EY rfl;have s4:dJ af K 4 (.ptr x (off+2)) (.bool false)=some K':=by rw[Fc];exact y2
  refine aO (ku (aO (bW (H':=K) (λ T=>aw T 7=.int .i64 (Int.ofNat i)) ?_ ?_)))
  ·(repeat ((first|apply bA (br rfl)|apply bO rfl rfl rfl);simp+decide only[AB,aq];rfl))
   exact bF (by simp+decide only[AB])
  intro T6 t7 k6;have x6:=(k6 6 rfl).trans v6;refine bW (H':=K') (λ T=>True) ?_ ?_
  ·(repeat ((first|apply bA (br rfl)|apply bO rfl rfl rfl);simp+decide only[AB,x6,t7,EM,Ez ax,y1,ayx,s4];rfl))
   exact bF trivial
  intro T7 _ k7;have aY:=(k7 57 rfl).trans ((k6 57 rfl).trans aq);refine bW (H':=K') (λ T=>aw T 57=.int .i64 (Int.ofNat (i+1))) ?_ ?_
  ·(repeat ((first|apply bA (br rfl)|apply bO rfl rfl rfl);simp+decide only[AB,aY,aI];rfl))
   exact bF (by simp+decide only[AB])
  intro T8 av k8;have q:∀{t:Nat} {a:aa},aw T5 t=a->aw T6 t=aw T5 t->aw T7 t=aw T6 t->aw T8 t=aw T7 t->aw T8 t=a:=λ h a b c=>c.trans (b.trans (a.trans h))
  exact⟨mm- 1,by omega,i+1,_,_,by omega,y3,aaE (by simp[RP,lX]) (by decide) a9 (by rw[am.1,ad.1]) bj,ad.step hx,A.trans y4,y5,q v1 (k6 1 rfl) (k7 1 rfl) (k8 1 rfl),q v2 (k6 2 rfl) (k7 2 rfl) (k8 2 rfl),q v4 (k6 4 rfl) (k7 4 rfl) (k8 4 rfl),q v6 (k6 6 rfl) (k7 6 rfl) (k8 6 rfl),q aZ (k6 56 rfl) (k7 56 rfl) (k8 56 rfl),av⟩
 .have aJ:i=nodes.length:=by grind
  subst aJ;obtain rfl:=ad.done;show W af ng _ 169 c4R _ _ _;have J:∀{u:Nat},u<=H.next+2->some u≠fl:=λ hu e=>by have:=aP _ e.symm;omega
  have bw:H.next+2<K7.next:=by omega
  have bf:=(((o1.keep D (by simp)).keep f8 (by simp)).keep f9 (λ e=>by grind)).keep A (J (show H.next<=H.next+2 by omega));have be:=(((o2.keep D (by simp)).keep f8 (by simp)).keep f9 (λ e=>by grind)).keep A (J (show H.next+1<=H.next+2 by omega));have bd:=(((o4.keep D (by simp)).keep f8 (by simp)).keep f9 (λ e=>by grind)).keep A (J (show H.next+2<=H.next+2 by omega));have mK:∀{u:Nat},u<=H.next+2->H3.aG.get u=some [u]->K.aG.get u=some [u]:=λ {u} hu h=>A.aG _ _ (f9.aG _ _ (f8.aG _ _ (D.aG _ _ h (by simp)) (by simp)) (λ e=>by grind)) (J hu)
  have bg:K.aG.get K7.next=some [K7.next]:=A.aG _ _ bh (λ e=>L e.symm);have ag:Fr none H K:=(((aX.trans D).trans f8).jE g f9 (λ f e=>by cases e;omega)).jE g A (λ f e=>by have:=aP f e;omega)
  obtain⟨I',an,aU⟩:∃I':Im,(∀u r,K.objs.get u=some r->¬(u=H.next\/u=H.next+1\/u=H.next+2\/u=K7.next)->I' u=some r)/\∀u r,I' u=some r->K.objs.get u=some r/\¬(u=H.next\/u=H.next+1\/u=H.next+2\/u=K7.next):=by
   refine⟨λ u=>if u=H.next\/u=H.next+1\/u=H.next+2\/u=K7.next then none else K.objs.get u,λ u r e h=>?_,λ u r e=>?_⟩;.simp only[aj h];exact e
   grind
  have Y:∀{u:Nat},(u=H.next\/u=H.next+1\/u=H.next+2\/u=K7.next)->I' u=none:=λ {u} hu=>by
   cases e:I' u;.rfl
   rename_i r;grind
  have F:cu I I':=λ u r e=>by have hu:=(g.wf u r (hI u r e)).1;exact an u r (ag.row u r (hI u r e) (by simp)) (by omega)
  have bi:cu I7 I':=λ u r e=>by
   obtain⟨w1,w2⟩:=aR u r e;have hu:=g7.wf u r w1;refine an u r (A.row u r (f9.row u r (f8.row u r w1 (by simp)) (λ e=>by grind)) (λ e=>w2 (.inr e.symm))) ?_;intro bx;have ro:∀{x:Nat} {row:Row},jh H3 x row->row.aC<=H.next+2->u=x->False:=λ o hf e2=>by subst e2;have h2:=D.row _ _ o.row (by simp);grind
   grind
  have q1:RP I' (.sl (nodes.map λ x=>vR (JF x)) none) v:=by
   obtain⟨hl,⟨_,h0,_⟩|⟨x,r,rfl,o,bk,bH,bz,bn⟩⟩:=am;.omega
   simp only[RP,aF];refine .inr ⟨x,0,none,r,4,rfl,an x r o.row ?_,.inr ⟨rfl,bk⟩,by omega,?_⟩
   .intro hx;have ro:∀{y:Nat} {row:Row},jh K y row->some row.aC≠fl->x=y->False:=λ o' hf e2=>by subst e2;have h2:=o'.row;rw[o.row]at h2;cases h2;exact hf bn.symm
    grind
   grind[AZ]
  have aD:=ok4 (ng:=ng) (gl:=gl) gk (bm.mono F) (λ u r e=>(aU u r e).1) bf be bd ak (mK (by omega) m1) (mK (by omega) m2) (mK (by omega) m4) bg (Y (.inl rfl)) (Y (.inr (.inl rfl))) (Y (.inr (.inr (.inl rfl)))) (Y (.inr (.inr (.inr rfl)))) (by omega) (by omega) (by omega) (by omega) (by omega) (by omega) (pU F _ _ r1) (pU F _ _ r2) (pU F _ _ r3) (pU F _ _ r4) (pU F _ _ r5) q1 (pU bi _ _ ba) v1 v2 v4 v6;refine bt (k+1) (by omega) aD λ T9 H9 G9 G ab=>?_
  obtain⟨xs,x1,x2,x3⟩:=GZ (P:=af) G.bN G.tmp (rs:=Tryz.f4.results.toList) (l:=l) (by rw[Hd mr4];exact aA);refine⟨by simp,xs,x1,G.bN.gd,⟨λ u r e _=>?_,λ f mem e _=>?_,fX ag.next ab.next⟩,G9.I,xs,F.trans ab.im,G.bN.fJ,KS x2,rfl⟩
  .have hu:=(g.wf u r e).1;have hK:=ag.row u r e (by simp);rcases ab.rows u (gk.wf u r hK).1 with e'|⟨d,kk,_,_,e'⟩
   .rw[e'];exact hK
   grind[ρ4]
  have hK:=ag.aG f mem e (by simp);rw[ab.aG f (gk.mem f mem hK).1 rfl];exact hK
end
end
section
open Go.Proofs
variable{Z7:aW}{l:List aa}
variable{ng:Nat}{gl:aM}
def tab:List Nat:=[0,1,56,2,57,49,28,3,61,58,42,50,38,29,17,4,62,47,59,36,45,43,51,22,53,39,33,30,24,18,12,5,63,55,48,27,60,41,37,16,46,35,44,21,52,32,23,11,54,26,40,15,34,20,31,10,25,14,19,9,13,8,7,6]
def kD:Row:={cells:=tab.map λ n=>aa.int .u8 (.ofNat n),aC:=0,start:=0,exact:=true,ro:=true,sz:=1}
inductive Le:List aa->ah->aa×ah->Prop
 |mk {H:ah} (h:H.objs.get 0=some kD):Le [] H (.bool true,H)
open Classical in
noncomputable def ou(ng m:Nat):aW:=λ f args H=>
 if f=5 then(if h:∃r,Le args H r then some (Classical.choose h)else none)
 else if f=4 then(if h:∃r,fI af ng (mE af ng (aV ng) m) 4 args H r then some (Classical.choose h)else none)
 else mE af ng (aV ng) m f args H
def aiX{H:ah}(h:H.objs.get 0=some kD):ou ng m 5 [] H=some (.bool true,H):=by have q:∃r,Le [] H r:=⟨_,.mk h⟩;unfold ou;rw[ao rfl,xB q];have:=ui q;generalize Classical.choose q=r at this;cases this;rfl
def avc{H:ah}(h:fI af ng (mE af ng (aV ng) m) 4 args H r):ou ng m 4 args H=some r:=by have q:∃r,fI af ng (mE af ng (aV ng) m) 4 args H r:=⟨_,h⟩;unfold ou;rw[aj (by decide),ao rfl,xB q,(ui q).unique h]
theorem aa8{f:FuncId}{H:ah}(h:ou ng m f args H=some r):(f=5/\Le args H r)\/(f=4/\fI af ng (mE af ng (aV ng) m) 4 args H r)\/mE af ng (aV ng) m f args H=some r:=by
 unfold ou at h;split at h
 .rename_i q;split at h;.grind
  cases h
 split at h
 .rename_i q;split at h;.grind
  cases h
 exact .inr (.inr h)
theorem awz(args:List ae):bV 4 args=none:=by unfold bV;grind
theorem aqV(args:List ae):bV 5 args=none:=by unfold bV;grind
theorem aAr{f:FuncId}{args:List ae}{S:List bI}{r:ae×List bI×Bool}(h:ji af pol gl bset bV m f args S=some r):f≠5/\f≠4:=by
 cases m;.cases h
 rename_i m;simp only[ji]at h;constructor
 .rintro rfl
  rw[show bset 5=true from rfl]at h;grind[aqV]
 rintro rfl
 rw[show bset 4=true from rfl]at h;grind[awz]
theorem csT(y:∀m,mz ng gl (ji af pol gl bset bV m) (mE af ng (aV ng) m))(m:Nat):mz ng gl (ji af pol gl bset bV m) (ou ng m):=by
 have q:∀{f args S r},ji af pol gl bset bV m f args S=some r->ou ng m f=mE af ng (aV ng) m f:=λ h=>by grind[aAr,ou]
 exact⟨λ f args S v F dt h D A=>by rw[q h];exact(y m).plain f args S v F dt h D A,λ f args S v F dt h D A=>by rw[q h];exact(y m).open_ f args S v F dt h D A⟩
def apW(h:bq g v off 5=some cs):de af g 27 (.ptr v off)=some (.agg cs):=by have q:Tryz.t27.size=5:=rfl;simp only[de,Tryz.underlying27,alF,q,h];rfl
noncomputable def Tg:Code:=match Tryz.f3.body with
 |some (.seq _ (.seq _ (.seq _ c)))=>c
 |_=>.skip
def aAZ:lU af (pol 3) Tg=some R3:=by kernel_rfl
def aou{H:ah}:ir af Z7 4 l H=Z7 4 l H:=by simp only[ir,Tryz.func4];rfl
def YN{H:ah}:ir af Z7 5 l H=Z7 5 l H:=by simp only[ir,Tryz.func5];rfl
def ρ3(q h:Nat):Bx:=λ d k=>if d=0 then(if k=5 then some q else if k=7 then some h else none)else none
theorem Fx{I:Im}{H:ah}(g:Good H)(L:kJ ng gl (AN I))(hI:cu I H.objs.get){u5 u7:Nat}{a1 a2 b1 b2:aa}{D A y q rs:aS}{n:Int}
 (Z:jh H u5 (qA u5 a1 a2)) (Y:jh H u7 (qA u7 b1 b2)) (m5:H.aG.get u5=some [u5]) (m7:H.aG.get u7=some [u7]) (n5:I u5=none) (n7:I u7=none) (ac:u5≠u7)
 (p1:RP I (.sl D none) a1) (p2:RP I (.sl A none) a2) (q1:RP I (.sl y none) b1) (q2:RP I (.sl q none) b2) (hs:RP I (.sl rs none) s)
 {F:Tr aa} (t1:aw F 1=.int .u8 n) (t5:aw F 5=.ptr u5 0) (t6:aw F 6=s) (t7:aw F 7=.ptr u7 0):
 Ok ng gl 0 ⟨ρ3 u5 u7,I,λ _=>none,λ _=>0⟩ [(1,.sc (.int .u8 n)),(5,.ptr 0 5 0),(6,.sl rs none),(7,.ptr 0 7 0)] F (aH [(5,[.sl D none,.sl A none]),(7,[.sl y none,.sl q none])] []) H:=by
 have get:∀d k cs,bE (aH [(5,[.sl D none,.sl A none]),(7,[.sl y none,.sl q none])] []) d k=some cs->d=0/\((k=5/\cs=[.sl D none,.sl A none])\/(k=7/\cs=[.sl y none,.sl q none])):=by
  intro d k cs h;have h:(if d=0 then lk [(5,[.sl D none,.sl A none]),(7,[.sl y none,.sl q none])] k else b7 [] d k)=some cs:=h;by_cases J:d=0
  .rw[ao J]at h;refine⟨J,?_⟩;rw[qe]at h;by_cases e:5=k;.grind
   rw[aj e,qe]at h;by_cases e:7=k;.grind
   rw[aj e]at h;cases h
  grind[b7]
 have sl:∀{es:aS} {o:Option Nat} {b:aa},RP I (.sl es none) b->aA (cut (0+1) (ρ3 u5 u7)) I (.sl es o) b:=λ h=>by simpa only[aA]using h
 have no:∀{G:Gh} {s:Nat->bX} {l:List aS} {xs:List aa},mw G s (l.map λ es=>ae.sl es none) xs:=λ {G s l xs} j es sz a e _=>by grind
 have e5:ρ3 u5 u7 0 5=some u5:=rfl;have e7:ρ3 u5 u7 0 7=some u7:=rfl;refine⟨⟨g,hI,λ d k cs M=>?_,λ d k d' k' cs ad u M ab e e'=>?_,λ f s e=>(by cases e),λ d k u e=>?_⟩,λ i v e=>?_,rfl,L⟩
 .have hx:=get d k cs M;clear M;obtain⟨J,h⟩:=hx;subst J;rcases h with⟨rfl,rfl⟩|⟨rfl,rfl⟩
  .exact⟨u5,_,⟨rfl,Z.row,rfl,rfl,rfl,m5,n5,rfl,cf.2 ⟨_,_,rfl,sl p1,cf.2 ⟨_,_,rfl,sl p2,by simp only[bB]⟩⟩,rfl,no (l:=[D,A])⟩⟩
  exact⟨u7,_,⟨rfl,Y.row,rfl,rfl,rfl,m7,n7,rfl,cf.2 ⟨_,_,rfl,sl q1,cf.2 ⟨_,_,rfl,sl q2,by simp only[bB]⟩⟩,rfl,no (l:=[y,q])⟩⟩
 .grind
 .have e:ρ3 u5 u7 d k=some u:=e;unfold ρ3 at e;have w5:=(g.wf _ _ Z.row).1;have w7:=(g.wf _ _ Y.row).1;grind
 .have pt:∀{k u:Nat},ρ3 u5 u7 0 k=some u->aA (cut (0+1) (ρ3 u5 u7)) I (.ptr 0 k 0) (.ptr u 0):=λ h=>by simp only[aA,cut];grind
  have po:∀{G:Gh} {s:Nat->bX} {k:Nat} {xs:List aa},mw G s (ae.ptr 0 k 0).cells xs:=λ {G s k xs} j es sz a e _=>by
   match j with
   |0=>cases e
   |j+1=>cases e
  rw[qe]at e;by_cases h:1=i
  .rw[ao h]at e;obtain rfl:=(dU e);subst h;rw[t1]
   exact⟨by simp[aA,lX],λ j es sz a e _=>by
    match j with
    |0=>cases e
    |j+1=>cases e⟩
  rw[aj h,qe]at e;by_cases h:5=i;.grind
  rw[aj h,qe]at e;by_cases h:6=i;.rw[ao h]at e;obtain rfl:=(dU e);subst h;rw[t6];exact⟨sl hs,no (l:=[rs])⟩
  rw[aj h,qe]at e;by_cases h:7=i;.grind
  rw[aj h]at e;cases e
theorem asY{I:Im}{tn:aS}{E:List El}{b:Bool}{q:List aa}(h:bB ρ0 I [iK tn te,ll R,o9 E V,eB b] q):
 ∃a1 a2 s b1 b2,q=[.agg [a1,a2],s,.agg [b1,b2],.bool b]/\RP I (.sl tn none) a1/\RP I (.sl te none) a2/\RP I (.sl (R.map RU.c) none) s/\RP I (.sl (E.map El.c) none) b1/\RP I (.sl (V.map Oc.c) none) b2/\a1.eh=true/\a2.eh=true/\b1.eh=true/\b2.eh=true:=by
 obtain⟨x1,l1,rfl,J,Y⟩:=cf.1 h;obtain⟨x2,l2,rfl,h2,M⟩:=cf.1 Y;obtain⟨x3,l3,rfl,h3,L⟩:=cf.1 M;obtain⟨x4,l4,rfl,h4,y⟩:=cf.1 L;simp only[bB]at y;subst y;simp only[aA]at J h3;obtain⟨_,bs,rfl,j1⟩:=J;obtain⟨_,cs,rfl,Z⟩:=h3;obtain⟨a1,a2,rfl,G,F⟩:=Me j1;obtain⟨b1,b2,rfl,D,A⟩:=Me Z;have o1:=vp G rfl;have o2:=vp F rfl;have o3:=vp D rfl;have o4:=vp A rfl;simp only[aA]at G F D A h2 h4;grind
section
variable{I:Im}{H:ah}{zT zE:List (Int×Int)}{rl:List nI}{dN:List Int}{dE:List (Int×Int×Int)}{c1 c2 c3 c4 c5:aa}
def akx(y:∀m,mz ng gl (ji af pol gl bset bV m) (mE af ng (aV ng) m))(J:AE gl)(q:kJ ng gl (AN I))(g:Good H)(D:cu I H.objs.get)
 (F:∀p∈zT,P8 p) (pE:∀p∈zE,P8 p) (G:∀x∈rl,yS x) (L:∀v∈dN,B8 v) (M:∀p∈dE,vK p)
 (r1:RP I (.sl (zT.map lR) none) c1) (r2:RP I (.sl (zE.map lR) none) c2) (r3:RP I (.sl (rl.map pF) none) c3) (r4:RP I (.sl (dN.map c8) none) c4) (r5:RP I (.sl (dE.map mr) none) c5):∃l,Rs gl l/\N8 ng I [.agg [c1,c2,c3,c4,c5]] H l:=by
 by_cases A:zT.length<=6/\zE.length<=6/\rl.length<=3/\dN.length<=4/\dE.length<=4;.exact axx y J q g D F pE G L M r1 r2 r3 r4 r5 A
 .exact⟨_,⟨[],[],[],[],[],false,rfl,λ h=>by cases h⟩,au0 g D r1 r2 r3 r4 r5 A⟩
theorem akC(ak:∀m,mz ng gl (ji af pol gl bset bV m) (mE af ng (aV ng) m))(hT:AE gl)(ag:kJ ng gl (AN I))(g:Good H)(hI:cu I H.objs.get)(h0:H.objs.get 0=some kD)
 (pT:∀p∈zT,P8 p) (pE:∀p∈zE,P8 p) (hd:∀x∈rl,yS x) (hN:∀v∈dN,B8 v) (hE:∀p∈dE,vK p)
 (r1:RP I (.sl (zT.map lR) none) c1) (r2:RP I (.sl (zE.map lR) none) c2) (r3:RP I (.sl (rl.map pF) none) c3) (r4:RP I (.sl (dN.map c8) none) c4) (r5:RP I (.sl (dE.map mr) none) c5)
 (oc:[c1,c2,c3,c4,c5].all aa.eh=true) (hn:n<=255):∃m r,fI af ng (ou ng m) 3 [.agg [c1,c2,c3,c4,c5],.int .u8 (n:Int)] H r/\r.1=.bool true:=by
 have f0:=gH g [c1,c2,c3,c4,c5] true 1;have g0:=gD g [c1,c2,c3,c4,c5] true 1;have o2:=ic H [c1,c2,c3,c4,c5] true 1;generalize ao:alloc H [c1,c2,c3,c4,c5] true 1=H1 at*;have aQ:H1.next=H.next+1:=by rw[<-ao];rfl
 have aJ:cu I H1.objs.get:=λ u r e=>f0.row u r (hI u r e) (by simp)
 obtain⟨l,⟨tn,te,R,E,V,b,rfl,L⟩,M,hM⟩:=akx ak hT ag g0 aJ pT pE hd hN hE r1 r2 r3 r4 r5
 obtain⟨J,aI⟩:∃J,∀m,J<=m->b=true->∀{D:Nat} {G:Gh} {T':Tr aa} {H:ah},Ok ng gl D G [(1,.sc (.int .u8 (n:Int))),(5,.ptr 0 5 0),(6,ll R),(7,.ptr 0 7 0)] T' (aH [(5,[.sl tn none,.sl te none]),(7,[.sl (E.map El.c) none,.sl (V.map Oc.c) none])] []) H->
  ∀{Q:eE->Tr aa->ah->Prop},(∀F H2,aw F 4=.bool true->Q .ret F H2)->W af ng (ou ng m) 61 Tg T' H Q:=by
  cases b;.exact⟨0,λ m _ h=>by cases h⟩
  .obtain⟨J,h3⟩:=afz (csT ak) aAZ (aqC (gl:=gl) hT (L rfl) hn);refine⟨J,λ m hm _ D G T' H Y Q hQ=>h3 m hm Y λ F H2 G2 k _=>hQ F H2 ?_⟩;have:=(k.tmp 4 (eB true) rfl).1;simp only[aA]at this;exact this.1
 refine⟨max M J,?_⟩;obtain⟨⟨rv,q⟩,aN,g4,aq,I2,xs,aC,nJ,aD,ac⟩:=hM (max M J) (BE _ _);simp only at g4 aq nJ ac;subst ac;obtain⟨a1,a2,s,b1,b2,rfl,p1,p2,ps,q1,q2,i1,i2,i3,i4⟩:=asY aD;have aF:ou ng (max M J) 4 [.agg [c1,c2,c3,c4,c5]] H1=some (.tuple [.agg [a1,a2],s,.agg [b1,b2],.bool b],q):=avc aN;have a0:aw (fH [.agg [c1,c2,c3,c4,c5],.int .u8 (n:Int)] 0 .nil) 0=.agg [c1,c2,c3,c4,c5]:=rfl;have aL:aw (fH [.agg [c1,c2,c3,c4,c5],.int .u8 (n:Int)] 0 .nil) 1=.int .u8 (n:Int):=rfl;have A:(aa.agg [c1,c2,c3,c4,c5]).cells=[c1,c2,c3,c4,c5]:=rfl;have aE:(aa.agg [.ai,.ai]).cells=[.ai,.ai]:=rfl;refine qn Tryz.func3 rfl ?_;show W af ng _ 61 _ _ _ _;refine aO (bW (H':=H1) (λ T=>aw T 2=.ptr H.next 0) ?_ ?_)
 ·(repeat ((first|apply bA (br rfl)|apply bO rfl rfl rfl);simp+decide only[AB,a0,A,ao];rfl))
  exact bF (by simp+decide only[AB])
 intro T1 t2 k1;have d1:=(k1 1 rfl).trans aL;have au:bq H1.objs.get H.next 0 5=some [c1,c2,c3,c4,c5]:=o2.rd (by simp);have f5:=gH g4 [.ai,.ai] true 1;have g5:=gD g4 [.ai,.ai] true 1;have f7:=gH g5 [.ai,.ai] true 1;have g7:=gD g5 [.ai,.ai] true 1;have o5:=(ic q [.ai,.ai] true 1).keep f7 (by simp);have o7:=ic (alloc q [.ai,.ai] true 1) [.ai,.ai] true 1;have m5:=f7.aG _ _ (wN q [.ai,.ai] true 1) (by simp);have m7:=wN (alloc q [.ai,.ai] true 1) [.ai,.ai] true 1;have ad:(alloc q [.ai,.ai] true 1).next=q.next+1:=rfl
 generalize an:alloc (alloc q [.ai,.ai] true 1) [.ai,.ai] true 1=H6 at*;have aP:H6.next=q.next+2:=by rw[<-an];rfl
 rw[ad]at o7 m7;obtain⟨H7,z1,z2,z3,z4,z5⟩:=lO g7 o5 (off:=0) (new:=[a1,a2]) (by simp) (by simp[i1,i2]);have s1:dJ af H6 31 (.ptr q.next 0) (.agg [a1,a2])=some H7:=by rw[J3];exact z1
 have z3:Fr (some q.next) H6 H7:=z3;have ax:=o7.keep z3 (λ e=>by grind);obtain⟨H8,w1,w2,Z,w4,w5⟩:=lO z5 ax (off:=0) (new:=[b1,b2]) (by simp) (by simp[i3,i4]);have s2:dJ af H7 36 (.ptr (q.next+1) 0) (.agg [b1,b2])=some H8:=by rw[ahR];exact w1
 have Z:Fr (some (q.next+1)) H7 H8:=Z;refine aO (bW (H':=H8) (λ T=>aw T 5=.ptr q.next 0/\aw T 6=s/\aw T 7=.ptr (q.next+1) 0/\aw T 8=.bool b) ?_ ?_)
 ·(repeat ((first|apply bA (br rfl)|apply bO rfl rfl rfl);simp+decide only[AB,t2,apW au,jS,oq,aou,aF,aiB,aiC,CK,TH,aE,ad,an,s1,s2];rfl))
  exact bF ⟨by simp+decide only[AB],by simp+decide only[AB],by simp+decide only[AB],by simp+decide only[AB]⟩
 rintro T2 ⟨t5,t6,t7,t8⟩ k2
 have e1:=(k2 1 rfl).trans d1;have z2:jh H7 q.next (qA q.next a1 a2):=z2;have ay:=z2.keep Z (λ e=>by grind);have av:jh H8 (q.next+1) (qA (q.next+1) b1 b2):=w2;have ap:∀u r,q.objs.get u=some r->H8.objs.get u=some r:=λ u r e=>by have hw:=g4.wf u r e;exact Z.row u r (z3.row u r (f7.row u r (f5.row u r e (by simp)) (by simp)) (λ e=>by grind)) (λ e=>by grind)
 have aK:H8.objs.get 0=some kD:=ap _ _ (aq.row _ _ (f0.row _ _ h0 (by simp)) (by simp));have al:ou ng (max M J) 5 [] H8=some (.bool true,H8):=aiX aK;refine aO (aO (bW (H':=H8) (λ T=>aw T 25=.bool (!b)) ?_ ?_))
 ·(repeat ((first|apply bA (br rfl)|apply bO rfl rfl rfl);simp+decide only[AB,t8,jS,oq,YN,al,Vx];rfl))
  exact bF (by simp+decide only[AB])
 intro T3 ar k3;have y1:=(k3 1 rfl).trans e1;have y5:=(k3 5 rfl).trans t5;have y6:=(k3 6 rfl).trans t6;have y7:=(k3 7 rfl).trans t7;refine jZ (by rw[mc,ar]) (λ hb=>?_) (λ hb=>kH ?_)
 .refine aO (bW (H':=H8) (λ T=>aw T 4=.bool true) ?_ ?_)
  ·(repeat ((first|apply bA (br rfl)|apply bO rfl rfl rfl);simp+decide only[AB,jS,oq,YN,al];rfl))
   exact bF (by simp+decide only[AB])
  intro T4 t4 _;exact oR ⟨by simp,[.bool true],by show jL af H8.objs.get T4 [.tmp 4]=_;simp only[jL,t4],rfl⟩
 .have hb:b=true:=by cases b<;>simp_all
  show W af ng _ 61 Tg _ _ _
  obtain⟨I',aR,am⟩:∃I':Im,(∀u r,H8.objs.get u=some r->¬(u=q.next\/u=q.next+1)->I' u=some r)/\∀u r,I' u=some r->H8.objs.get u=some r/\¬(u=q.next\/u=q.next+1):=by
   refine⟨λ u=>if u=q.next\/u=q.next+1 then none else H8.objs.get u,λ u r e h=>?_,λ u r e=>?_⟩;.simp only[aj h];exact e
   grind
  have ab:∀{u:Nat},(u=q.next\/u=q.next+1)->I' u=none:=λ {u} hu=>by
   cases e:I' u;.rfl
   rename_i r;grind
  have y:cu I2 I':=λ u r e=>by have h4:=nJ u r e;have hu:=(g4.wf u r h4).1;grind
  have aB:H8.aG.get q.next=some [q.next]:=Z.aG _ _ (by rw[Nf z1];exact m5) (λ e=>by grind);have az:H8.aG.get (q.next+1)=some [q.next+1]:=by rw[Nf w1,Nf z1];exact m7
  have Y:=Fx (ng:=ng) (gl:=gl) w5 (ag.mono (aC.trans y)) (λ u r e=>(am u r e).1) ay av aB az (ab (.inl rfl)) (ab (.inr rfl)) (by omega) (pU y _ _ p1) (pU y _ _ p2) (pU y _ _ q1) (pU y _ _ q2) (pU y _ _ ps) y1 y5 y6 y7;refine aI _ (xw _ _) hb Y λ T9 H9 h4=>?_
  exact⟨by simp,[.bool true],by show jL af H9.objs.get T9 [.tmp 4]=_;simp only[jL,h4],rfl⟩
end
end
section
open Go.Proofs
def JN(kD:Row):Prop:=∀(H:ah),H.objs.get 0=some kD->∀B ρ w h,jj B 1 ρ H w->cJ ρ [] h->Calls af 5 ⟨h⟩ w (λ e w'=>∃x,e=.returned x/\bj ρ (.bool true) x/\cp B 1 H.objs.get H.next H.next ρ w H.objs.get H.aG.get ρ w')
def Fj:∀k,gS (mE af ng (aV ng) k)
 |0=>λ _ _ _ _ _ h=>by cases h
 |k+1=>Zi ai6 (Fj k)
def Qc(q:sK af):∀k,jN af ng (mE af ng (aV ng) k)
 |0=>λ _ _ _ _ _ h=>by cases h
 |k+1=>W9 (anw q) (Qc q k) (Fj k) q
def ajM:gS (ou ng m):=λ f args H v H' h=>by
 rcases aa8 h with⟨_,k⟩|⟨_,k⟩|k
 .cases k;exact gG.refl _
 .exact agR (Fj m) k
 exact Fj m _ _ _ _ _ k
def asg(F:JN kD)(q:sK af):jN af 1 (ou 1 m):=λ f args H v H' h=>by
 rcases aa8 h with⟨rfl,k⟩|⟨rfl,k⟩|k
 .cases k with
  |mk h0=>exact λ B ρ w A s wf y D=>(F H h0 B ρ w A s D).mono λ e w' ⟨x,J,G,h3⟩=>⟨x,ρ,J,G,h3⟩
 .exact OX (Qc q m) (Fj m) q k
 exact Qc q m _ _ _ _ _ k
def IQ:aM:=λ g=>if g=0 then some zV else none
def atG:AE IQ:=rfl
def Wx:∀l:List Nat,cE I (l.map λ n:Nat=>(.sc (.int .u8 (n:Int)):ae)) (l.map λ n=>aa.int .u8 (.ofNat n))
 |[]=>by simp[cE]
 |a::l=>by simp only[fL,cE];exact⟨_,_,rfl,by simp[RP,lX],Wx l⟩
def abi:Oi=tab:=rfl
def aA1(h0:I 0=some kD):kJ 1 IQ (AN I):=λ g cs e=>by
 unfold IQ at e;split at e
 .rename_i h;subst h;cases e;refine⟨by decide,kD,h0,by simp[kD,abi],?_⟩;have:(kD.cells.take zV.length)=tab.map λ n=>aa.int .u8 (.ofNat n):=by rw[mB (by simp[kD,abi])];rfl
  rw[this];exact Wx tab
 cases e
def azG(ha:JN kD)(A:sK af){H:ah}(g:Good H)(Z:cu I H.objs.get)(h0:I 0=some kD){rl:List nI}{Y M L J G:aa}
 (pT:∀p∈zT,P8 p) (pE:∀p∈zE,P8 p) (hd:∀x∈rl,yS x) (hN:∀v∈dN,B8 v) (hE:∀p∈dE,vK p)
 (r1:RP I (.sl (zT.map lR) none) Y) (r2:RP I (.sl (zE.map lR) none) M) (r3:RP I (.sl (rl.map pF) none) L) (r4:RP I (.sl (dN.map c8) none) J) (r5:RP I (.sl (dE.map mr) none) G)
 (oc:[Y,M,L,J,G].all aa.eh=true) (hn:n<=255) {B:Nat} {ρ:cr} {w:World} {F:List Value} (s:jj B 1 ρ H w) (q:∀v,H.next<=v->ρ v=none) (hx:cJ ρ [.agg [Y,M,L,J,G],.int .u8 (n:Int)] F):
 Calls af 3 ⟨F⟩ w (λ e w'=>e=.returned (.bool true)/\w'.os=w.os/\w'.tape=w.tape/\w'.output=w.output/\w.heap.size<=w'.heap.size/\∀b,b<B->w'.heap[b]? =w.heap[b]?):=by
 obtain⟨m,⟨v,H'⟩,h3,y⟩:=akC (ng:=1) (gl:=IQ) (λ m=>Ya aum m) atG (aA1 h0) g Z (Z _ _ h0) pT pE hd hN hE r1 r2 r3 r4 r5 oc hn;simp only at y;subst y;refine(OX (asg ha A) ajM A h3 B ρ w F s g.wf (λ v h _=>q v h) hx).mono λ e w' ⟨x,ρ',he,y,D⟩=>?_
 have y:x=.bool true:=y;subst y;exact⟨he,D.os,D.tape,D.output,D.size,cp.below s D⟩
end
end
end Go.Abs
