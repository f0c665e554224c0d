/- Walks; the plain law. -/
import Derived.Test.YtcmaalfaddllgaaGreatDoorH
import Derived.Test.YtcmaalfaddllgaaGreatDoorI
import Derived.Test.YtcmaalfaddllgaaGreatDoorJ
import Derived.Test.YtcmaalfaddllgaaGreatDoorSh
import Derived.KernelRfl
set_option linter.all false
set_option maxRecDepth 100000
namespace Go.Abs
noncomputable section
open Go
variable{B count d i j k m most n o off p p2 q q2 sz v:Nat}{E0 vE:List El}{H' H0:ah}{I:Im}{P:Program}{R:Tr aa->Prop}{S:List bI}{T:Tr aa}{a:BitVec 64}{args xs:List aa}{b:Bool}{Z7:aW}{e:Int}{fm:Option Nat}{fr s s' s0 vV:List Oc}{g:Nat->Option Row}{l lN:List Int}{lE:List Ed}{Z8:List Oper}{r:aa×ah}{st:aq}{t:TypeId}{te:aS}{y:Oc}{α β σ:Type}
section
open Go.Proofs
variable{ng:Nat}
def BQ:∀(l:List Int),jx l=cT l
 |[]=>rfl
 |a::l=>by simp only[jx,fL,cT]
def NU:∀{a b:List Int},jx a=jx b->a=b
 |[],[],_=>rfl
 |[],_::_,h=>by simp[jx]at h
 |_::_,[],h=>by simp[jx]at h
 |x::a,y::b,h=>by simp only[jx,fL,rG,aa.int.injEq,true_and]at h;rw[h.1,NU (a:=a) (b:=b) (by simpa[jx]using h.2)]
theorem RL(zs:List Int):(Lib.compact zs).length<=zs.length:=by unfold Lib.compact Lib.compactUpTo;rw[aF];exact fX (aiM _ _) (by simp)
def Dx(h:List Int):List Int:=Lib.compact h++List.replicate (h.length-(Lib.compact h).length) 0
def ake(zs:List Int):(Dx zs).length=zs.length:=by have:=RL zs;simp[Dx];omega
inductive mD:FuncId->List aa->ah->aa×ah->Prop
 |LX {H:ah}:mD 295 [.ai] H (.tuple [],H)
 |sort {H H':ah} {v n:Nat} {zs:List Int} (hr:bq H.objs.get v 0 n=some (jx zs)) (hs:∃r,H.objs.get v=some r/\r.sz=1) (hl:zs.length<=1000) (hw:gM H v 0 (jx (mH zs))=some H'):mD 295 [.slice v 0 n none] H (.tuple [],H')
 |Ls {H:ah}:mD 296 [.ai] H (.ai,H)
 |comp {H H':ah} {v n:Nat} {zs:List Int} (hr:bq H.objs.get v 0 n=some (jx zs)) (hs:∃r,H.objs.get v=some r/\r.sz=1) (hl:zs.length<=1000) (hw:gM H v 0 (jx (Dx zs))=some H'):mD 296 [.slice v 0 n none] H (.slice v 0 (Lib.compact zs).length none,H')
def VJ{ng:Nat}{ρ:cr}{H:ah}{w w':World}(s:jj B ng ρ H w)(e:w'=w):cp B ng H.objs.get H.next H.next ρ w H.objs.get H.aG.get ρ w':=by subst e;exact cp.refl s _ _
def amp(w:World):Sort.grow w #[]=w:=by unfold Sort.grow;rw[Array.append_empty]
def atX:jN af ng (si mD):=by
 intro f args H v H' h B ρ w xs s wf ab L;have hR:=QJ h;cases hR with
 |LX=>
  obtain⟨y,ys,rfl,A,u⟩:=dg.1 L;obtain rfl:=nH.1 u;have A:y=.slice none 0 0:=A;subst A;exact(Tryz.slices_Sort_int_none none 0 w).mono λ e w' ⟨J,G⟩=>⟨_,ρ,J,⟨[],rfl,rfl⟩,VJ s G⟩
 |sort Z Y M N=>
  rename_i v n K;refine(ahB (res:=λ _=>.tuple #[]) s Z N Y (λ bC off cap hh hb D=>?_) L).mono λ e w' ⟨l,M,F,he,D⟩=>⟨_,ρ,he,⟨[],rfl,rfl⟩,D⟩
  exact Tryz.slices_Sort_int bC off cap K w hh hb (by omega)
 |Ls=>
  obtain⟨y,ys,rfl,A,u⟩:=dg.1 L;obtain rfl:=nH.1 u;have A:y=.slice none 0 0:=A;subst A;exact(Tryz.slices_Compact_int_empty none 0 w).mono λ e w' ⟨J,G⟩=>⟨_,ρ,J,rfl,VJ s G⟩
 |comp Z Y M N=>
  rename_i v n K;refine(ahB (res:=λ l=>.slice (some ⟨l.bC,l.off,none⟩) (Lib.compact K).length l.cap) s Z N Y (λ bC off cap hh hb D=>?_) L).mono λ e w' ⟨l,M,F,he,D⟩=>⟨_,ρ,he,⟨l,M,by simp[F]⟩,D⟩
  refine(Tryz.slices_Compact_int bC off cap K w hh (by omega) D).mono λ e w' ⟨J,q,G⟩=>⟨J,q,#[],?_⟩
  rw[G,amp];rfl
def aoU:gS (si mD):=by
 intro f args H v H' h;have G:=QJ h;cases G with
 |LX=>exact gG.refl _
 |sort D A F u=>exact MF u
 |Ls=>exact gG.refl _
 |comp D A F u=>exact MF u
def aqa:nr (si mD):=by
 intro f args H v H' h;have G:=QJ h;cases G with
 |LX=>exact iz.refl _
 |sort D A F u=>exact J2 u
 |Ls=>exact iz.refl _
 |comp D A F u=>exact J2 u
open Classical in
noncomputable def ua(ng:Nat)(Z7:aW):aW:=λ f args H=>if f=136 then(if h:∃r,rS af ng 3 8 Z7 136 args H r then some (Classical.choose h)else none)else si mD f args H
def alb{H:ah}(h:rS af ng 3 8 Z7 136 args H r):ua ng Z7 136 args H=some r:=by have u:∃r,rS af ng 3 8 Z7 136 args H r:=⟨r,h⟩;unfold ua;rw[ao rfl,xB u,(ui u).unique h]
def Ox{f:FuncId}{H:ah}(h:ua ng Z7 f args H=some r):(f=136/\rS af ng 3 8 Z7 136 args H r)\/si mD f args H=some r:=by
 unfold ua at h;split at h
 .rename_i A;split at h;.rename_i u;cases h;exact .inl ⟨A,ui u⟩
  cases h
 exact .inr h
def ape{f:FuncId}{H:ah}(u:f≠136)(A:f≠295)(h3:f≠296):ua ng Z7 f args H=none:=by
 unfold ua;rw[aj u];refine arK λ r h=>?_
 cases h<;>simp_all
def iv(ng:Nat):Nat->aW
 |0=>λ _ _ _=>none
 |k+1=>r7 af ng (ua ng (iv ng k)) (iv ng k)
def azj(u:gS Z7):gS (ua ng Z7):=λ f args H v H' h=>by
 rcases Ox h with⟨_,h⟩|h
 .exact ax6 u h
 exact aoU _ _ _ _ _ h
def akM(u:nr Z7):nr (ua ng Z7):=λ f args H v H' h=>by
 rcases Ox h with⟨_,h⟩|h
 .exact ajp u h
 exact aqa _ _ _ _ _ h
def azJ(u:jN af ng Z7)(A:gS Z7):jN af ng (ua ng Z7):=λ f args H v H' h=>by
 rcases Ox h with⟨rfl,D⟩|h
 .exact asc u A D
 exact atX _ _ _ _ _ h
def GQ:∀k,gS (iv ng k)
 |0=>λ _ _ _ _ _ h=>by cases h
 |k+1=>Zi (azj (GQ k)) (GQ k)
def yW:∀k,nr (iv ng k)
 |0=>λ _ _ _ _ _ h=>by cases h
 |k+1=>arS (akM (yW k)) (yW k)
def Uz(u:sK af):∀k,jN af ng (iv ng k)
 |0=>λ _ _ _ _ _ h=>by cases h
 |k+1=>W9 (azJ (Uz u k) (GQ k)) (Uz u k) (GQ k) u
def sX{f:FuncId}{H:ah}(A:f≠136)(u:f≠295)(h3:f≠296)(h:fI af ng (iv ng k) f args H r):iv ng (k+1) f args H=some r:=IG (ape A u h3) h
def JL{f:FuncId}{H:ah}(u:f≠136)(h:si mD f args H=some r):iv ng (k+1) f args H=some r:=by refine Sd ?_;unfold ua;rw[aj u];exact h
def arn(k:Nat):YB (iv ng (k+1)):=by
 intro H s zs fm g hs hl;obtain⟨N,⟨rfl,Z,rfl⟩|⟨v,r,rfl,o,u,D,L,rfl⟩⟩:=hs
 .obtain rfl:=km Z;obtain⟨r,N,J⟩:=IA (R:=mD) (f:=295) (args:=[.ai]) (H:=H) mD.LX;have:r=(.tuple [],H):=by cases J;rfl
  subst this;exact⟨H,JL (by decide) N,⟨by rw[wT,EV];rfl,.inl ⟨rfl,rfl,rfl⟩⟩,Fr.refl _ _,g⟩
 rw[xF]at D L;have G:(jx (mH zs)).length=zs.length:=by simp[jx,EV]
 obtain⟨H',K,F,hf,hn,g'⟩:=lO g o (off:=0) (new:=jx (mH zs)) (by omega) (by rw[BQ];exact Jd _);have M:bq H.objs.get v 0 zs.length=some (jx zs):=by simp only[bq,o.row];rw[b9 (by omega)];simp only[cM,L,BQ]
 obtain⟨Y,J,h3⟩:=IA (R:=mD) (mD.sort M ⟨r,o.row,u⟩ hl K)
 have:Y=(.tuple [],H'):=by
  cases h3 with
  |sort A _ _ h=>
   rw[M]at A;have e:=NU (dU A);subst e;rw[K]at h;cases h;rfl
 subst this;refine⟨H',JL (by decide) J,⟨by rw[wT,EV];omega,.inr ⟨v,_,rfl,F,u,?_,?_,rfl⟩⟩,hf,g'⟩;.simp only;rw[JG _ _ _ (by omega)];omega
 simp only[ep,dh,jS,xF];rw[aiJ,mB (by omega),G];simp[BQ]
def akj(k:Nat):adZ (iv ng (k+1)):=by
 intro H s zs fm g Z hl;obtain⟨M,⟨rfl,Y,rfl⟩|⟨v,r,rfl,o,u,D,K,rfl⟩⟩:=Z
 .obtain rfl:=km Y;obtain⟨r,M,G⟩:=IA (R:=mD) (f:=296) (args:=[.ai]) (H:=H) mD.Ls;have:r=(.ai,H):=by cases G;rfl
  subst this;exact⟨_,H,JL (by decide) M,⟨rfl,.inl ⟨rfl,rfl,rfl⟩⟩,Fr.refl _ _,g⟩
 rw[xF]at D K;have ac:=RL zs;have ab:(jx (Dx zs)).length=zs.length:=by rw[<-ake zs];simp[jx]
 obtain⟨H',J,F,hf,hn,g'⟩:=lO g o (off:=0) (new:=jx (Dx zs)) (by omega) (by rw[BQ];exact Jd _);have L:bq H.objs.get v 0 zs.length=some (jx zs):=by simp only[bq,o.row];rw[b9 (by omega)];simp only[cM,K,BQ]
 obtain⟨N,G,h3⟩:=IA (R:=mD) (mD.comp L ⟨r,o.row,u⟩ hl J)
 have:N=(.slice v 0 (Lib.compact zs).length none,H'):=by
  cases h3 with
  |comp A _ _ h=>
   rw[L]at A;have e:=NU (dU A);subst e;rw[J]at h;cases h;rfl
 subst this;refine⟨_,H',JL (by decide) G,⟨by rw[wT];omega,.inr ⟨v,_,rfl,F,u,?_,?_,rfl⟩⟩,hf,g'⟩;.simp only;rw[JG _ _ _ (by omega)];omega
 have e:jx (Dx zs)=cT (Lib.compact zs)++cT (List.replicate (zs.length-(Lib.compact zs).length) 0):=by rw[<-UQ,BQ];rfl
 simp only[ep,dh,jS,xF];rw[e,vH,aiJ,mB (by rw[wT];omega),wT];simp
end
section
open Go.Proofs
variable{a:Int}{b:List Int}{s:aa}
variable{ng:Nat}{G:Gh}{H:ah}{I:Im}
def OL:∀{l:List Int} {cs:List aa},bR I 1 (l.map λ n=>[eI n]) cs->cs=cT l
 |[],cs,h=>by simpa[bR,cT]using h
 |n::l,cs,h=>by
  simp only[fL,bR]at h;obtain⟨_,u,A⟩:=h;cases cs;.simp[cE]at u
  rename_i c cs;rw[dC,dh]at u;simp only[cE]at u;obtain⟨L,J,F,D,K⟩:=u;cases F;simp only[RP]at D;rw[dW,cM]at A;rw[OL A,D.1];simp[cT]
def aes(K:cu I g){a:aa}(h:RP I (aD l) a):jd g 1 l.length a (cT l):=by
 have h:RP I (.sl (l.map λ n=>[eI n]) none) a:=h;simp only[RP,aF]at h;rcases h with⟨D,A⟩|⟨v,off,u,r,sz,D,A,h3,L,J⟩
 .have:l=[]:=by simpa using D
  subst this;exact⟨rfl,.inl ⟨rfl,A⟩⟩
 refine⟨by rw[wT];omega,?_⟩;cases l;.refine .inr ⟨v,off,u,r,D,K _ _ A,by simp only[dG]at L⊢;omega,by simp[cT]⟩
 rename_i n l;have F:sz=1:=by simp only[fL,bR]at J;exact J.1.symm
 subst F;exact .inr ⟨v,off,u,r,D,K _ _ A,L,OL J⟩
def Z0(u:cn G (dA []) H)(F:Good H')(fr:Fr none H H')(A:iz H H')(h:cj H' 1 l.length s (cT l) fm)(D:kM H fm):kr 0 G [] H (some (s,H')) (aD l) [] false:=by
 refine Ip u F fr A ?_ λ j es sz c e J=>?_
 .have:=h.rp (I:=G.I) u.gd fr A D (es:=l.map λ n=>[eI n]) (by rw[aF]) JU;simpa only[aA]using this
 cases j;.simp[ae.cells]at e
 rename_i j;simp[ae.cells]at e
def aun(k:Nat):aff (iv ng (k+1)):=by
 intro I H l a g N h hl;have h:RP I (.sl (l.map λ n=>[eI n]) none) a:=h;obtain⟨r,K,D,A,J⟩:=Zz (ng:=ng) (Z7:=iv ng k) g N h (λ e L=>by obtain⟨n,_,rfl⟩:=eK.1 L;rfl) (by rw[aF];omega)
 refine⟨r,sX (by decide) (by decide) (by decide) K,?_⟩;rcases J with⟨e0,e1,e2⟩|⟨u,cells,ex,h1,F,h3,h4,Z,Y⟩
 .have:l=[]:=by simpa using e0
  subst this;exact⟨none,⟨rfl,.inl ⟨e1,rfl,rfl⟩⟩,λ f e=>(by cases e),D,A⟩
 rw[aF]at F Z;have M:cells=cT l:=OL Y;subst M;exact⟨some u,⟨by rw[wT];omega,.inr ⟨u,_,F,⟨h3,rfl,_,h4⟩,rfl,by show l.length*1<=(cT l).length;omega,by show(cT l).take (l.length*1)=cT l;rw[mB (by omega)],rfl⟩⟩,λ f e=>(by cases e;exact h1),D,A⟩
def atA(k:Nat):acJ (iv ng (k+1)):=λ H n g h=>by obtain⟨r,A,u⟩:=an5 (ng:=ng) (Z7:=iv ng k) g h;exact⟨r,sX (by decide) (by decide) (by decide) A,u⟩
def aka(k:Nat)(h:cn G (dA []) H){l:List El}(A:l.length<=1000)(u:bB ρ0 G.I [.sl (l.map El.c) none] xs):kr 0 G [] H (iv ng (k+1) 43 xs H) (iP l) [] false:=by obtain⟨r,F,D⟩:=alA (ng:=ng) h A u (yW (ng:=ng) k);rw[sX (by decide) (by decide) (by decide) F];exact D
def ajT(k:Nat)(h:cn G (dA []) H)(A:l.length<=1000)(u:bB ρ0 G.I [aD l] xs):kr 0 G [] H (iv ng (k+1) 68 xs H) (fk l) [] false:=by obtain⟨r,F,D⟩:=amB (ng:=ng) h A u (yW (ng:=ng) k);rw[sX (by decide) (by decide) (by decide) F];exact D
def aAb(F:cu I H.objs.get){a:List Int}(ha:a.length<=2000)(hb:b.length<=2000)(h:RP I (.sl [[aD a],[aD b]] none) s):EG H.objs.get s [a,b]:=by
 obtain⟨h1,cs,K,h3,h4,h5⟩:=H5 h (sz:=1) (λ e he=>by
  rcases ck.1 he with rfl|he
  .rfl
  rw[dp.1 he];rfl) F
 simp only[bR,cE]at h4;obtain⟨_,⟨Y,ac,e1,r1,rfl⟩,_,⟨N,ab,e2,r2,rfl⟩,e3⟩:=h4
 have M:cs=[Y,N]:=by
  match cs,h3 with
  |[x,y],_=>
   simp only[dC,dh,dW,cM,rG,rO]at e1 e2;rw[e1,e2]
 subst M;simp only[RP]at h;rcases h with⟨h0,_⟩|⟨v,off,u,r,sz,k1,k2,k3,J,Z⟩
 .cases h0
 have L:sz=1:=by simp only[bR]at Z;exact Z.1.symm
 subst L;refine⟨[Y,N],⟨rfl,.inr ⟨v,off,u,r,k1,F _ _ k2,J,?_⟩⟩,λ i z c A D=>?_⟩;.subst k1;have J:off+2<=r.cells.length:=J;have K:eR H.objs.get 1 2 (.slice v off 2 u)=some [Y,N]:=K;simp only[eR,b9 (be 2),xF,bq,F _ _ k2,b9 J]at K;exact dU K
 match i,A,D with
 |0,A,D=>cases A;cases D;exact⟨aes F r1,ha⟩
 |1,A,D=>cases A;cases D;exact⟨aes F r2,hb⟩
def rZ.f'{H:ah}(h:rZ H fm):kM H fm:=h.f
def apz(k:Nat)(h:cn G (dA []) H){a:List Int}(N:a.length<=1000)(M:b.length<=1000)(F:bB ρ0 G.I [.sl [[aD a],[aD b]] none] xs):kr 0 G [] H (iv ng (k+2) 109 xs H) (aD (a++b)) [] false:=by
 obtain⟨s,rfl,A⟩:=Jj F;have A:RP G.I (.sl [[aD a],[aD b]] none) s:=by simpa only[aA]using A
 obtain⟨r,D,fm,h3,L,K,J⟩:=ath (ng:=ng) (atA (ng:=ng) k) h.gd (aAb h.fJ (by omega) (by omega) A) (by show 2<=2000;decide) (by simp;omega);rw[sX (by decide) (by decide) (by decide) D];have u:[a,b].flatten=a++b:=by simp
 rw[u]at h3;exact Z0 h K L (DQ (yW (ng:=ng) (k+1)) D) h3 J.f
def anp{tn:aS}(h:bB ρ0 I [.agg [.sl tn none,.sl te none],eI a] xs):∃u A,xs=[.agg [u,A],.int .i64 a]/\RP I (.sl tn none) u/\RP I (.sl te none) A/\u.eh=true/\A.eh=true:=by obtain⟨c,cs,rfl,L,h2⟩:=cf.1 h;obtain⟨c2,ad,rfl,h3,K⟩:=cf.1 h2;simp only[bB]at K;subst K;simp only[aA]at L h3;obtain⟨_,bs,rfl,Z⟩:=L;obtain⟨u,ac,rfl,F,Y⟩:=cf.1 Z;obtain⟨A,ab,rfl,D,J⟩:=cf.1 Y;simp only[bB]at J;subst J;have N:=vp F rfl;have M:=vp D rfl;simp only[aA]at F D;exact⟨u,A,by rw[h3.1],F,D,N,M⟩
def aA2(k:Nat){K:ah}(g:Good K)(h:cj K 1 l.length s (cT l) fm)(u:l.length<=1000):∃r,iv ng (k+1) 205 [s] K=some r/\cj r.2 1 l.length s (cT l.reverse) fm/\Fr fm K r.2/\Good r.2:=by obtain⟨r,D,A⟩:=aoK (ng:=ng) (Z7:=iv ng k) g h u;exact⟨r,sX (by decide) (by decide) (by decide) D,A⟩
def aza{l:List aa}{H:ah}:ir af Z7 205 l H=Z7 205 l H:=by simp only[ir,Tryz.func205];rfl
def ayE(k:Nat)(u:cn G (dA []) H){tn:aS}(J:Cv tn){a:Nat}(M:a<tn.length)(K:bB ρ0 G.I [.agg [.sl tn none,.sl te none],eI a] xs):kr 0 G [] H (iv ng (k+2) 151 xs H) (aD (jf tn (a+1) a).reverse) [] false:=by obtain⟨sN,sE,rfl,h1,h2,F,D⟩:=anp K;obtain⟨r,h3,Z,Y,fm,A,N⟩:=apO (ng:=ng) (Z7:=iv ng (k+1)) u.gd u.fJ J h1 F D M (λ f args H e=>by subst e;exact aza) (λ g h L=>aA2 k g h L);rw[sX (by decide) (by decide) (by decide) h3];rw[<-List.length_reverse]at A;exact Z0 u Y Z (DQ (yW (ng:=ng) (k+1)) h3) A N
def aiZ(k:Nat)(h:cn G (dA []) H)(F:l.length<=1000)(D:bB ρ0 G.I [aD l] xs):kr 0 G [] H (iv ng (k+2) 237 xs H) (eI ((Lib.compact (mH l)).length:Int)) [] false:=by
 obtain⟨s,rfl,u⟩:=Jj D;have u:RP G.I (aD l) s:=by simpa only[aA]using u
 obtain⟨r,A,h3,K,J⟩:=avL (ng:=ng) h.gd h.fJ u F (aun (ng:=ng) k) (arn k) (akj k);rw[sX (by decide) (by decide) (by decide) A];obtain⟨v,H'⟩:=r;simp only at h3;subst h3;refine Ip h J K (DQ (yW (ng:=ng) (k+1)) A) (by simp[aA,lX]) λ j es sz c e L=>?_
 cases j;.simp[ae.cells]at e
 rename_i j;simp[ae.cells]at e
open Classical in
noncomputable def AP(j:Nat):cI:=λ f args S=>match args with
 |[.agg [.sl tn none,.sl _ none],.sc (.int .i64 a)]=>if f=136/\ta tn/\a<tn.length/\a+1<j/\j<=1000/\ -1<=a then some (.sl (eA tn j a) (some 4),S,false)else none
 |_=>none
def axJ{tn:aS}(u:ta tn)(F:a<tn.length)(h:a+1<j)(D:j<=1000)(A: -1<=a):AP j 136 [.agg [.sl tn none,.sl te none],eI a] S=some (.sl (eA tn j a) (some 4),S,false):=by simp only[AP];rw[ao ⟨rfl,u,F,h,D,A⟩]
def IU{f:Nat}{args:List ae}{A:List bI}{v:ae}{dt:Bool}(h:AP j f args S=some (v,A,dt)):∃tn te a,f=136/\args=[.agg [.sl tn none,.sl te none],eI a]/\ta tn/\a<tn.length/\a+1<j/\(j<=1000/\ -1<=a)/\v=.sl (eA tn j a) (some 4)/\A=S/\dt=false:=by
 unfold AP at h;split at h
 .rename_i tn te a;split at h;.rename_i u;cases h;exact⟨tn,te,a,u.1,rfl,u.2.1,u.2.2.1,u.2.2.2.1,u.2.2.2.2,rfl,rfl,rfl⟩
  cases h
 cases h
def anf:∀fn c,Tryz.prog.funcs[136]? =some fn->fn.body=some c->rA 3 8 c=true:=by obtain⟨fn,c,D,A,h3,_⟩:=ahH acb;intro F J u h;rw[D]at u;cases u;rw[A]at h;cases h;exact h3
def adt{gl:aM}(L:mz ng gl (AP j) (iv ng j)){tn te:aS}(h:ta tn)(h1:a<tn.length)(h2:a+1<(j+1:Nat))(h3:j+1<=1000)(M:cn G (dA []) H)(hg:kJ ng gl G)(N:bB ρ0 G.I [.agg [.sl tn none,.sl te none],eI a] xs):
 kr 0 G [] H (iv ng (j+1) 136 xs H) (.sl (eA tn (j+1) a) (some 4)) [] false:=by
 have hb:=ays (gl:=gl) (Z7:=AP j) (te:=te) h (f:=j) (by omega) h1 (λ h0 S=>by
  have hi:a.toNat<tn.length:=by omega
  obtain⟨c0,p,c2,l,e,u,p2,_⟩:=h.2 _ hi;have Y:jc tn a.toNat=p:=by simp only[jc,e]
  exact axJ h (by omega) (by omega) (by omega) (Y▸u)) []
 obtain⟨m,Z⟩:=azF (pol:=λ _=>acd) (k:=8) (id0:=3) acb hb;obtain⟨x,H',G',K,J,F,D,A⟩:=auV (dt:=false) (G:=G) (H:=H) L Z anf rfl M hg (xs0:=xs) (by rw[show([]:List bI).length=0 from rfl,ZN];exact N) (λ d k e=>by rw[EI]at e;cases e);refine⟨x,H',G',?_,J,F,D,A⟩;exact Sd (alb K)
def YE{gl:aM}:∀j,mz ng gl (AP j) (iv ng j)
 |0=>⟨λ f args S v J dt h=>by
  obtain⟨tn,te,a,rfl,rfl,A,F,D,h3,rfl,rfl,rfl⟩:=IU h;intro u M;omega,λ f args S v J dt h u=>by
  obtain⟨tn,te,a,rfl,rfl,A,F,D,h3,rfl,rfl,rfl⟩:=IU h;cases u⟩
 |j+1=>by
  have K:=YE (gl:=gl) j;refine⟨λ f args S v J dt h u M=>?_,λ f args S v J dt h u=>?_⟩;.obtain⟨tn,te,a,rfl,rfl,A,F,D,h3,rfl,rfl,rfl⟩:=IU h;exact⟨rfl,rfl,λ G H xs L Y N=>adt K A F D h3.1 L Y N⟩
  obtain⟨tn,te,a,rfl,rfl,A,F,D,h3,rfl,rfl,rfl⟩:=IU h;cases u
def ali(k:Nat){gl:aM}(u:cn G (dA []) H)(F:kJ ng gl G){tn:aS}(h:ta tn){a:Nat}(K:a<tn.length)(J:a+1<k)(D:k<=999)(A:bB ρ0 G.I [.agg [.sl tn none,.sl te none],eI a] xs):
 kr 0 G [] H (iv ng (k+1) 136 xs H) (.sl (eA tn (a+1) a) (some 4)) [] false:=by
 have:=adt (YE (ng:=ng) (gl:=gl) k) h (a:=a) (by omega) (by omega) (by omega) u F A;rw[agB h (f:=a+1) (g:=k+1) (by omega) (by omega) (by omega)]at this;exact this
end
section
open Go.Proofs
variable{ng:Nat}{gl:aM}{I:Im}{H K K':ah}
def AN(I:Im):Gh:=⟨λ _ _=>none,I,λ _=>none,λ _=>0⟩
def vs0(g:Good K)(h:cu I K.objs.get):cn (AN I) (dA []) K where
 gd:=g
 fJ:=h
 box:=λ d k cs e=>by rw[yh]at e;cases e
 inj:=λ d k F D cs A u e=>by rw[yh]at e;cases e
 aC:=λ f s e=>by cases e
 lq:=λ d k u e=>by cases e
end
section
open Go.Proofs
variable{o:List El}
variable{gl:aM}{base:eH}
def yR(r:RU)(h:List Int)(ev:Int)(p:Ed×Nat)(o:List El):Option (List El⊕bZ):=
 if o.length<=2000 then
  if fW r.iE p.2 then some (.inl o)else
  match df h p.1.fr,df h p.1.to with
  |some a,some b=>some (.inl (o++[⟨true,p.1.ty,a,b,ev⟩]))
  |_,_=>none
 else none
def vU(N:aT)(x:Oc)(ev fr:Int):Option (List El):=match df N.R x.ru with
 |some r=>(match bP (xI r x ev fr) r.rN.zipIdx ([],[])with
  |some (.inl s)=>(match bP (yR r s.2 ev) r.rE.zipIdx s.1 with|some (.inl o)=>some o|_=>none)
  |_=>none)
 |none=>none
def apH{r:RU}(hR:Hy r){ev:Int}{A:List Int}(ab:r.rE.length<=1000)(ac:r.iE.length<=1000){s:List El}(h:bP (yR r A ev) r.rE.zipIdx o=some (.inl s)):
 aJ af gl (VW gl base) 104 JJ [(2,eI ev),(9,.ptr S.length 9 0),(10,iP o),(11,fk A),(72,dY r.rE),(73,eI r.rE.length),(74,eI 0)] (aH [(9,r.c)] S)=some (.exit 2,[(2,eI ev),(9,.ptr S.length 9 0),(10,iP s),(11,fk A),(72,dY r.rE),(73,eI r.rE.length),(74,eI r.rE.length),(75,eB false)],(aH [(9,r.c)] S)):=by
 have hL:=pg (P:=af) (gl:=gl) (Z7:=VW gl base) (n:=104) (l:=r.rE.zipIdx) (C:=JJ) (B:=Cq) (f:=yR r A ev)
  (TT:=λ i s=>[(2,eI ev),(9,.ptr S.length 9 0),(10,iP s),(11,fk A),(72,dY r.rE),(73,eI r.rE.length),(74,eI i)]) (ST:=λ _=>(aH [(9,r.c)] S))
  (X:=λ s=>(.exit 2,[(2,eI ev),(9,.ptr S.length 9 0),(10,iP s),(11,fk A),(72,dY r.rE),(73,eI r.rE.length),(74,eI r.rE.length),(75,eB false)],(aH [(9,r.c)] S))) ?_ ?_ ?_ o _ h
 .exact hL
 .intro i s;rw[ajC];simp+decide only[VB,lk,aB,↓reduceIte,Nat.reduceBEq,Nat.reduceAdd]
 .intro i s p hi Z;rw[rP]at hi;have G:∀d k,iJ d k r.c=true:=λ d k=>Lx hR.d
  have D:((i:Int)<(r.rE.length:Int))=True:=dw (by omega);have F:r.rE[i]? =some r.rE[i]:=cW hi;have N:p=(r.rE[i],i):=by rw[Eu,F]at Z;simpa using Z.symm
  subst N;have he:(r.rE.map Ed.c)[i]? =some (r.rE[i]).c:=by rw[bM,F];rfl
  unfold yR;by_cases Y:s.length<=2000
  .rw[ao Y];have K:∀S,VW gl base 70 [aD r.iE,eI (i:Int)] S=some (eB (fW r.iE i),S,false):=λ S=>uZ (by omega)
   cases hh:fW r.iE (i:Int)
   .simp only[rI,qv];cases h2:df A (r.rE[i]).fr;.trivial
    rename_i a;cases h3:df A (r.rE[i]).to;.trivial
    rename_i b;obtain⟨u,e1,hu⟩:=jU h2;obtain⟨v,e2,hv⟩:=jU h3;have M:(A.map λ n=>[eI n])[u]? =some [eI a]:=by rw[bM,hu];rfl
    have L:(A.map λ n=>[eI n])[v]? =some [eI b]:=by rw[bM,hv];rfl
    have J:∀st,iG st 5 (iP s) (.sl [[eB true,eI (r.rE[i]).ty,eI a,eI b,eI ev]] (some 5))=some (iP (s++[⟨true,(r.rE[i]).ty,a,b,ev⟩])):=λ st=>by
     have e:(ae.sl (s.map El.c++[[eB true,eI (r.rE[i]).ty,eI a,eI b,eI ev]]) (some 5))=iP (s++[⟨true,(r.rE[i]).ty,a,b,ev⟩]):=by simp[El.c]
     rw[<-e];exact lZ (by simp only[aF,cD,dG];omega) rfl
    simp+decide only[Cq,VB,lk,aB,↓reduceIte,Nat.reduceBEq,Nat.reduceAdd,IP,SR,P0,X4,PQ,D,aY he,Ed.c,RU.g14,G,aI mU,K,hh,e1,e2,aY M,aY L,fD,fM,fO,ft,fo,eM,cm,dh,dC,dW,cM,J,gW (show i<=4611686018427387904 by omega)]
   simp only[jz];simp+decide only[Cq,VB,lk,aB,↓reduceIte,Nat.reduceBEq,Nat.reduceAdd,IP,SR,P0,PQ,D,aY he,Ed.c,RU.g14,G,aI mU,K,hh,gW (show i<=4611686018427387904 by omega)]
  rw[aj Y];trivial
 .intro s;refine⟨?_,λ h=>by cases h⟩;rw[rP];simp+decide only[Cq,VB,lk,aB,↓reduceIte,Nat.reduceBEq,Nat.reduceAdd,IP,jT]
def w81{N:aT}{S:List bI}{a b c:Option Nat}(Z:b7 S d k=some (N.c a b c)){x:Oc}{ev fr:Int}(hf:0<=fr/\fr<=1000000)(hR:∀r∈N.R,Hy r/\r.rN.length<=1000/\r.iN.length<=1000/\r.rE.length<=1000/\r.iE.length<=1000)(h:vU N x ev fr=some o):
 VW gl base 81 [.ptr d k 0,.agg x.c,eI ev,eI fr] S=some (.sl (o.map El.c) none,S,false):=by
 have ab:=cY Z;have hd:(d=S.length)=False:=b6 (by omega);have gb:(d==S.length)=false:=by simp;omega
 have M:(S.length==d)=false:=by simp;omega
 unfold vU at h;split at h
 .rename_i r Y;obtain⟨i,e1,hi⟩:=jU Y;have K:(N.R.map RU.c)[i]? =some r.c:=by rw[bM,hi];rfl
  obtain⟨F,h2,h3,h4,h5⟩:=hR r (ni Y);have G:∀d k,iJ d k r.c=true:=λ d k=>Lx F.d
  split at h
  .rename_i s hs;split at h;.rename_i o' ho;cases h;have D:=atF (gl:=gl) (base:=base) (S:=S) (x:=x) hf h2 h3 hs;have L:=apH (gl:=gl) (base:=base) (S:=S) F h4 h5 ho;refine jG m81 rfl rfl ?_;simp only[Oc.c,e1]at D;have A:(r.c.length==25)=true:=rfl;have u:r.c.length=25:=rfl;have J:jt true 25 r.c 0=some (.agg r.c):=RJ rfl;simp+decide only[bz,Yi,VB,lk,aB,↓reduceIte,Nat.reduceBEq,Nat.reduceAdd,aar,acY,YD,WT,abf,adm,aaz,Oc.c,hd,gb,M,Z,aT.c,e1,aY (sz:=25) K RU.len,J,G,RU.g6,RU.g7,F.s,F.k,A,u,aF,D,L]
   cases h
  cases h
 .cases h
end
section
open Go.Proofs
variable{a b:List ae}{bef:List (List Nat)}
variable{gl:aM}{base:eH}
def afH{ok:Nat->Bool}:∀{es:List (Nat×fq)} {up:Option Nat},(∀k,k<=es.length->ok k=true)->lH bef j ok es up=true
 |[],up,h=>by simp only[lH,h 0 (be _),rM]
 |e::es,up,h=>by have u:=h (es.length+1) (by simp);simp only[lH,u,rM,BF];exact afH λ k A=>h k (by simp;omega)
def je{b:Nat×Nat}{h:fq}{es:List (Nat×fq)}(F:(bef.getD i []).elem j=true)(D:xP b es=true)(h3:decide (m<=es.length)=true):lH bef j (yy (some b) m ((i,h)::es)) ((i,h)::es) none=true:=by
 have u:=jk h3;simp only[lH,F,rM,Em,BF];refine afH λ k A=>?_
 show iH b m k ((i,h)::es)=true;rw[aso u A];exact Ov D
def Qr:∀{F:bI},mN (mN F k a) k b=mN F k b
 |[]=>rfl
 |(i,v)::F=>by
  simp only[JS];by_cases h:i=k;.simp only[ao h,JS,Qr,↓reduceIte]
  simp only[aj h,JS,Qr]
def LC:∀{S:List bI},jv (jv S d k a) d k b=jv S d k b
 |[]=>rfl
 |F::S=>by
  by_cases h:d=S.length;.simp only[jv,ao h,Qr]
  simp only[jv,aj h,wi,LC]
def q81:cy af 81=true:=by kernel_rfl
def aT.add(N:aT)(x:Oc)(l:List El)(s:BitVec 64):aT:=⟨N.R,N.E++l,N.V++[x],N.C++[s]⟩
def w37(hB:kK base){N:aT}(hb:NB N){S:List bI}(F:b7 S d k=some (N.c (some 5) (some 3) (some 1)))(hR:∀r∈N.R,Hy r/\r.rN.length<=1000/\r.iN.length<=1000/\r.rE.length<=1000/\r.iE.length<=1000)
 (hE:N.E.length<=1000) (hV:N.V.length<=1000) (hC:N.C.length<=1000) {x:Oc} (J:x.no.length<=1000) (K:x.ed.length<=1000) {l:List El} (hl:vU N x N.V.length N.E.length=some l) (ac:l.length<=10000) {s:BitVec 64} (hs:sq N (gO x)=some s):
 VW gl base 37 [.ptr d k 0,.agg x.c] S=some (eB (decide (((N.E++l).length:Int)<=200)),jv S d k ((N.add x l s).c (some 5) (some 3) (some 1)),true):=by
 have ab:=cY F;have hd:(d=S.length)=False:=b6 (by omega);have gb:(d==S.length)=false:=by simp;omega
 have Y:(S.length==d)=false:=by simp;omega
 have L:(gO x).length<=1000000:=by unfold gO;rw[dM];omega
 have Z:∀A,b7 (jv S d k A) d k=some A:=λ A=>by rw[BZ,ao ⟨rfl,rfl⟩,F];rfl
 have h:=w81 (gl:=gl) (base:=base) (S:=[(3,x.c)]::S) (dm F) (by omega) hR hl;have u:∀S,VW gl base 75 [.agg x.c] S=some (aD (gO x),S,false):=λ S=>E8 hB J K
 have M:b7 (jv S d k (N.c (some 5) (some 3) none)) d k=some (N.c (some 5) (some 3) none):=Z _;have D:=YU (gl:=gl) (base:=base) (S:=[(3,x.c)]::jv S d k (N.c (some 5) (some 3) none)) (dm M) L hs;have a1:∀st,iG st 1 (.sl (N.C.map λ x=>[eW x]) (some 1)) (.sl [[eW s]] (some 1))=some (.sl ((N.C++[s]).map λ x=>[eW x]) (some 1)):=λ st=>by rw[lZ (by simp only[aF,cD,dG];omega) rfl];simp
 have a2:∀st,iG st 3 (.sl (N.V.map Oc.c) (some 3)) (.sl [[eI x.ru,aD x.no,aD x.ed]] (some 3))=some (.sl ((N.V++[x]).map Oc.c) (some 3)):=λ st=>by rw[lZ (by simp only[aF,cD,dG];omega) rfl];simp[Oc.c]
 have G:∀l:List El,fR 5 (l.map El.c)=true:=λ l=>by
  induction l with
  |nil=>rfl
  |cons y l ih=>exact ih
 have a3:∀st,iG st 5 (.sl (N.E.map El.c) (some 5)) (.sl (l.map El.c) none)=some (.sl ((N.E++l).map El.c) (some 5)):=λ st=>by rw[lZ (by simp only[aF];omega) (G l)];simp
 refine jG m37 rfl rfl ?_;simp only[Oc.c,aT.c]at h u D;simp+decide only[bz,ab2,VB,lk,aB,↓reduceIte,Nat.reduceBEq,Nat.reduceAdd,afZ,V9,Zq,aeo,ab4,abT,Oc.c,hd,gb,Y,F,aT.c,aF,aI q81,h,aI Ab,u,aI Sj,D,fD,a1,a2,a3,wi,LC,Z,je,cm,dh,dC,dW,cM];rfl
end
section
open Go.Proofs
variable{gl:aM}{base:eH}
def vC(n:Int):El:=⟨false,n,0,0,-1⟩
def xh(x:Ed):El:=⟨true,x.ty,x.fr,x.to,-1⟩
def ah2{l:List El}{x:El}(h:l.length<=100000):∀st,iG st 5 (iP l) (.sl [x.c] (some 5))=some (iP (l++[x])):=λ st=>by
 have e:(ae.sl (l.map El.c++[x.c]) (some 5))=iP (l++[x]):=by simp
 rw[<-e];exact lZ (by simp only[aF,cD,dG];omega) rfl
def D9{α:Type}(g:α->El)(x:α)(o:List El):Option (List El⊕bZ):=if o.length<=10000 then some (.inl (o++[g x]))else none
def Q3{g:α->El}:∀{l:List α} {o:List El},o.length+l.length<=10000->bP (D9 g) l o=some (.inl (o++l.map g))
 |[],o,_=>by simp[bP]
 |x::l,o,h=>by simp only[cD]at h;simp only[bP,D9,ao (show o.length<=10000 by omega)];rw[Q3 (by simp only[dM,cD,dG];omega)];simp
def awG{Z7:cI}(h:lN.length<=1000):
 aJ af gl Z7 40 Ir [(1,.ptr 0 1 0),(3,.sl [] (some 5)),(9,aD lN),(10,eI lN.length),(11,eI 0)] (aH [(1,[aD lN,dY lE])] [])=some (.exit 0,[(1,.ptr 0 1 0),(3,iP (lN.map vC)),(9,aD lN),(10,eI lN.length),(11,eI lN.length),(12,eB false)],(aH [(1,[aD lN,dY lE])] [])):=by
 have J:=pg (P:=af) (gl:=gl) (Z7:=Z7) (n:=40) (l:=lN) (C:=Ir) (B:=HG) (f:=D9 vC)
  (TT:=λ i s=>[(1,.ptr 0 1 0),(3,iP s),(9,aD lN),(10,eI lN.length),(11,eI i)]) (ST:=λ _=>(aH [(1,[aD lN,dY lE])] []))
  (X:=λ s=>(.exit 0,[(1,.ptr 0 1 0),(3,iP s),(9,aD lN),(10,eI lN.length),(11,eI lN.length),(12,eB false)],(aH [(1,[aD lN,dY lE])] []))) ?_ ?_ ?_ [] _ (Q3 (by rw[dG];omega))
 .exact J
 .intro i s;rw[amL];simp+decide only[VB,lk,aB,↓reduceIte,Nat.reduceBEq,Nat.reduceAdd]
 .intro i s p hi F;have u:((i:Int)<(lN.length:Int))=True:=dw (by omega);have G:(lN.map λ n=>[eI n])[i]? =some [eI p]:=by rw[bM,F];rfl
  unfold D9;by_cases D:s.length<=10000;.rw[ao D];have A:=ah2 (x:=vC p) (l:=s) (by omega);simp only[vC,El.c]at A;simp+decide only[HG,VB,lk,aB,↓reduceIte,Nat.reduceBEq,Nat.reduceAdd,Pe,Wy,ahP,ahq,u,aY G,fD,fM,fO,ft,fo,eM,cm,dh,dC,dW,cM,A,vC,gW (show i<=4611686018427387904 by omega)]
  rw[aj D];trivial
 .intro s;refine⟨?_,λ h=>by cases h⟩;simp+decide only[HG,VB,lk,aB,↓reduceIte,Nat.reduceBEq,Nat.reduceAdd,Pe,jT]
def anH{Z7:cI}{o:List El}(h:o.length+lE.length<=10000):
 aJ af gl Z7 40 MH [(3,iP o),(22,dY lE),(23,eI lE.length),(24,eI 0)] (aH [] [])=some (.exit 2,[(3,iP (o++lE.map xh)),(22,dY lE),(23,eI lE.length),(24,eI lE.length),(25,eB false)],(aH [] [])):=by
 have J:=pg (P:=af) (gl:=gl) (Z7:=Z7) (n:=40) (l:=lE) (C:=MH) (B:=FE) (f:=D9 xh)
  (TT:=λ i s=>[(3,iP s),(22,dY lE),(23,eI lE.length),(24,eI i)]) (ST:=λ _=>(aH [] []))
  (X:=λ s=>(.exit 2,[(3,iP s),(22,dY lE),(23,eI lE.length),(24,eI lE.length),(25,eB false)],(aH [] []))) ?_ ?_ ?_ o _ (Q3 h)
 .exact J
 .intro i s;rw[aph];simp+decide only[VB,lk,aB,↓reduceIte,Nat.reduceBEq,Nat.reduceAdd]
 .intro i s p hi F;have u:((i:Int)<(lE.length:Int))=True:=dw (by omega);have G:(lE.map Ed.c)[i]? =some p.c:=by rw[bM,F];rfl
  unfold D9;by_cases D:s.length<=10000;.rw[ao D];have A:=ah2 (x:=xh p) (l:=s) (by omega);simp only[xh,El.c]at A;simp+decide only[FE,VB,lk,aB,↓reduceIte,Nat.reduceBEq,Nat.reduceAdd,Pz,abE,aax,ac7,u,aY G,Ed.c,fD,fM,fO,ft,fo,eM,cm,dh,dC,dW,cM,A,xh,gW (show i<=4611686018427387904 by omega)]
  rw[aj D];trivial
 .intro s;refine⟨?_,λ h=>by cases h⟩;simp+decide only[FE,VB,lk,aB,↓reduceIte,Nat.reduceBEq,Nat.reduceAdd,Pz,jT]
def fc(lN:List Int)(lE:List Ed):List El:=lN.map vC++lE.map xh
def w32{lN:List Int}{lE:List Ed}(h:lN.length<=1000)(u:lE.length<=1000):VW gl base 32 [.agg [aD lN,dY lE]] S=some (iP (fc lN lE),S,false):=by refine iU (S':=[]) (w:=false) m32 rfl rfl ?_;have A:=awG (gl:=gl) (Z7:=VW gl base) (lN:=lN) (lE:=lE) h;have u:=anH (gl:=gl) (Z7:=VW gl base) (lE:=lE) (o:=lN.map vC) (by rw[aF];omega);simp+decide only[bz,F32,VB,lk,aB,↓reduceIte,Nat.reduceBEq,Nat.reduceAdd,aa1,aeh,ad3,adj,aac,aF,A,u];rfl
end
section
open Go.Proofs
variable{gl:aM}{base:eH}
abbrev qy(l:List Oc):ae:=.sl (l.map Oc.c) (some 3)
def apj{l:List Oc}{x:Oc}(h:l.length<=1000000000):∀st,iG st 3 (qy l) (.sl [x.c] (some 3))=some (qy (l++[x])):=λ st=>by
 have e:(ae.sl (l.map Oc.c++[x.c]) (some 3))=qy (l++[x]):=by simp
 rw[<-e];exact lZ (by simp only[aF,cD,dG];omega) rfl
def yj(N:aT)(x:Oc):Option Bool:=if sO N x then some false else rF N x
def J7:cy af 35=true:=by kernel_rfl
def O2:cy af 36=true:=by kernel_rfl
def w34(hB:kK base)(hT:nD gl base){N:aT}(hb:NB N){S:List bI}{a b c:Option Nat}(hN:b7 S d k=some (N.c a b c))(hV:N.V.length<=1000000)(Z:b7 S p q=some [.ptr d k 0])(hf:b7 S p2 q2=some [qy fr])(ac:fr.length<=1000000000)
 {x:Oc} (L:x.no.length<=1000) (M:x.ed.length<=1000) {z:Bool} (h:yj N x=some z):
 VW gl base 34 [.agg x.c,.ptr p q 0,.ptr p2 q2 0] S=some (.aL [],(if z then jv S p2 q2 [qy (fr++[x])]else S),z):=by
 have hd:(d=S.length)=False:=b6 (by have:=cY hN;omega);have F:(p=S.length)=False:=b6 (by have:=cY Z;omega);have D:(p2=S.length)=False:=b6 (by have:=cY hf;omega);have K:(p==S.length)=false:=by have:=cY Z;simp;omega
 have J:(p2==S.length)=false:=by have:=cY hf;simp;omega
 have u:=w35 (gl:=gl) (base:=base) (S:=[(3,x.c)]::S) (dm hN) hV L M;have hG:∀A,b7 (jv S p2 q2 A) p2 q2=some A:=λ A=>by rw[BZ,ao ⟨rfl,rfl⟩,hf];rfl
 have ab:=apj (x:=x) (l:=fr) ac;unfold yj at h;refine jG m34 rfl rfl ?_;split at h;.rename_i Y;cases h;rw[Y]at u;simp only[Oc.c]at u;simp+decide only[bz,IE,VB,lk,aB,↓reduceIte,Nat.reduceBEq,Nat.reduceAdd,Na,KC,Oc.c,hd,F,D,K,J,Z,aI J7,u];rfl
 .rename_i Y;have Y:sO N x=false:=by simpa using Y
  rw[Y]at u;have G:=w36 (gl:=gl) (base:=base) (S:=[(3,x.c)]::S) hB hT hb (dm hN) L M h;simp only[Oc.c]at u G ab;cases z;.simp+decide only[bz,IE,VB,lk,aB,↓reduceIte,Nat.reduceBEq,Nat.reduceAdd,Na,KC,Og,Oc.c,hd,F,D,K,J,Z,aI J7,u,aI O2,G];rfl
  simp+decide only[bz,IE,VB,lk,aB,↓reduceIte,Nat.reduceBEq,Nat.reduceAdd,Na,KC,Og,Oc.c,hd,F,D,K,J,Z,hf,aI J7,u,aI O2,G,fD,ab,wi,LC,hG];rfl
end
section
open Go.Proofs
variable{k:IntKind}
variable{gl:aM}{base:eH}
def anG(s:BitVec 64): -s= ~~~(s- 1#64):=by apply Ep;rw[BitVec.toNat_neg,BitVec.toNat_not,Vy];have h:=s.isLt;show(2^64-s.toNat)%2^64=2^64- 1-(2^64- 1+s.toNat)%2^64;omega
def ar0{s:BitVec 64}{t:Nat}(h:s≠0#64)(e:s.toNat=2^(t+1)*m+2^t)(D:t<64):s&&& -s=1#64<<<t:=by
 have K:s.toNat≠0:=λ e=>h (Ep e)
 have F:=s.isLt;have J:(s- 1#64).toNat=s.toNat- 1:=by rw[Vy];show(2^64- 1+s.toNat)%2^64=_;omega
 apply BitVec.eq_of_getLsbD_eq;intro i hi;rw[anG,BitVec.getLsbD_and,BitVec.getLsbD_not,BitVec.getLsbD_shiftLeft];have a1:s.getLsbD i=s.toNat.testBit i:=rfl;have a2:(s- 1#64).getLsbD i=(s- 1#64).toNat.testBit i:=rfl;rw[a1,a2,J,e,QC,acv];by_cases u:i<t+1
 .rw[ao u,ao u];by_cases A:t=i;.subst A;simp[D]
  have:i<t:=by omega
  simp[A,this]
 rw[aj u,aj u];have:¬i<t:=by omega
 have h3:(1#64).getLsbD (i-t)=false:=by have:(1#64).getLsbD (i-t)=(1:Nat).testBit (i-t):=rfl;rw[this];obtain⟨k,G⟩:∃k,i-t=k+1:=⟨i-t- 1,by omega⟩;rw[G,Nat.testBit_succ];simp
 rw[h3];simp;exact λ a _=>a
def Oi:List Nat:=[0,1,56,2,57,49,28,3,61,58,42,50,38,29,17,4,62,47,59,36,45,43,51,22,53,39,33,30,24,18,12,5,63,55,48,27,60,41,37,16,46,35,44,21,52,32,23,11,54,26,40,15,34,20,31,10,25,14,19,9,13,8,7,6]
def axE:∀t:Fin 64,Oi[(((1#64<<<t.val)*285870213051353865#64)>>>58).toNat]? =some t.val:=by decide
def cCv(st:aq)(k:IntKind):ae->Option VR
 |.sc (.int _ n)=>some ⟨.sc (.int k (k.wrap n)),[],st,.pure⟩
 |_=>none
def afB{h:IntKind}{n:Int}:cCv st k (.sc (.int h n))=some ⟨.sc (.int k (k.wrap n)),[],st,.pure⟩:=rfl
def ag4{Z7:cI}{T:VT}{d:Option Tmp}{x:bu}:aN P gl Z7 T st d (.cv k x)=oB (bh gl T x) λ v=>cCv st k v:=by
 simp only[aN];cases bh gl T x;.rfl
 rename_i v;cases v with
 |sc a=>cases a<;>rfl
 |_=>rfl
def YF(n:Int):IntKind.wrap .u64 n=n%18446744073709551616:=rfl
def auI{b:BitVec 64}:dn af .mul t (eW a) (eW b)=some (eW (a*b)):=by
 show some (ae.sc (.int .u64 (IntKind.wrap .u64 ((a.toNat:Int)*(b.toNat:Int)))))=_;refine dc (λ z=>some (ae.sc (.int .u64 z))) ?_;rw[YF,BitVec.toNat_mul,Int.natCast_emod,Int.natCast_mul]
 try rfl
def asM(h:n<64):dn af .shr t (eW a) (.sc (.int .u64 (n:Int)))=some (eW (a>>>n)):=by
 rw[nw];have:Op.shift .shr .u64 (a.toNat:Int) .u64 (n:Int)=pure (.int .u64 ((a.toNat:Int).fdiv (2^(min (n:Int).toNat IntKind.u64.bits)))):=by unfold Op.shift;rw[aj (by omega)]
 show(match qo (Op.shift .shr .u64 (a.toNat:Int) .u64 (n:Int))with|some r=>kx r|none=>none)=_;rw[this];show some (ae.sc (.int .u64 _))=_
 congr 3
 rw[VE,Vo,Eo,show min n IntKind.u64.bits=n from Nu (Nat.le_of_lt h),aiH _ (Int.le_of_lt (Int.pow_pos (by decide))),Int.natCast_ediv,Int.natCast_pow];rfl
def aj0:vg .neg (eW a)=some (eW (-a)):=by
 show some (ae.sc (.int .u64 (IntKind.wrap .u64 (0-(a.toNat:Int)))))=_;rw[YF];have h:=a.isLt
 congr 3
 rw[BitVec.toNat_neg];omega
def ayN{cs:List ae}(h:i<64){kd:IntKind}:mP none (some (64,1)) (.rp cs 0) (.sc (.int kd (i:Int)))=some (.rp cs i):=by show(if i<64 then some (ae.rp cs (0+i*1))else none)=_;rw[ao h,iX,xF]
def atO(a:BitVec 64):(a>>>58).toNat<64:=by rw[VE,Vo];have:=a.isLt;omega
abbrev zV:List ae:=Oi.map λ n:Nat=>.sc (.int .u8 (n:Int))
def AE(gl:aM):Prop:=gl 0=some zV
def asx:∀u:Fin 64,IntKind.wrap .i64 (u.val:Int)=(u.val:Int):=by decide
def Yg(Z:AE gl):nD gl base:=by
 intro s t l L S;have h0:s≠0#64:=λ e=>by subst e;rw[PT]at L;cases L
 obtain⟨t',m,e,hb,M⟩:=Ry h0;rw[hb]at L;cases L;have ha:=ar0 h0 e M;have N:¬(s.toNat:Int)=0:=λ e=>h0 (Ep (by show s.toNat=0;omega))
 have D:dn af .mul 48 (eW (1#64<<<t)) (.sc (.int .u64 285870213051353865))=some (eW ((1#64<<<t)*285870213051353865#64)):=by have h:=auI (t:=48) (a:=1#64<<<t) (b:=285870213051353865#64);rw[show eW 285870213051353865#64=.sc (.int .u64 285870213051353865)from dc (λ z=>ae.sc (.int .u64 z)) (show((285870213051353865#64).toNat:Int)=285870213051353865 by decide)]at h;exact h
 have u:dn af .shr 48 (eW ((1#64<<<t)*285870213051353865#64)) (.sc (.int .u64 58))=some (eW (((1#64<<<t)*285870213051353865#64)>>>58)):=asM (n:=58) (by omega);have A:=axE ⟨t,M⟩;have Y:=asx ⟨t,M⟩;simp only at A Y;have F:=atO ((1#64<<<t)*285870213051353865#64);generalize((1#64<<<t)*285870213051353865#64)>>>58=q at u A F;generalize(1#64<<<t)*285870213051353865#64=q2 at D u;have J:=ayN (cs:=zV) F (kd:=.u64);have G:zV[q.toNat]? =some (.sc (.int .u8 (t:Int))):=by rw[bM,A];rfl
 have K:∀T,bh gl T (.g 0)=some (.rp zV 0):=λ T=>by simp only[bh];rw[show gl 0=_ from Z]
 generalize zV=tv at J G K;refine iU (S':=[]) (w:=false) arX rfl rfl ?_;simp+decide only[bz,ahI,VB,lk,aB,↓reduceIte,Nat.reduceBEq,Nat.reduceAdd,Wi,Xe,Zp,adK,b6 N,aj0,af9,ha,D,u,K,J,G,ag4,afB,Y]
end
section
open Go.Proofs
variable{d k:Int}{o:List Int}{p q:α->Option Bool}{s:BitVec 64}
def Hl{l:List α}:df l (i:Int)=l[i]? :=by unfold df;rw[ao (by omega)];rfl
def tO{l m:List α}(h:l<+:m){x:α}(e:df l k=some x):df m k=some x:=by
 obtain⟨t,rfl⟩:=h;unfold df at e⊢;split at e
 .rename_i u;rw[ao u];have:k.toNat<l.length:=by rw[mR]at e;exact e.1
  rw[xp this];exact e
 cases e
def Bq:∀{l:List α} {b:Bool},(∀x∈l,∀b,p x=some b->q x=some b)->jy p l=some b->jy q l=some b
 |[],b,_,h=>h
 |x::l,b,A,h=>by
  simp only[jy]at h⊢;split at h;.rename_i u;rw[A x (cS ..) _ u];exact h
  .rename_i u;rw[A x (cS ..) _ u];exact Bq (λ y D=>A y (cz _ D)) h
  cases h
def aeE:∀{l:List α} {i:Nat} {b:Int},(∀x∈l,∀b,p x=some b->q x=some b)->lg p i l=some b->lg q i l=some b
 |[],i,b,_,h=>h
 |x::l,i,b,A,h=>by
  simp only[lg]at h⊢;split at h;.rename_i u;rw[A x (cS ..) _ u];exact h
  .rename_i u;rw[A x (cS ..) _ u];exact aeE (λ y D=>A y (cz _ D)) h
  cases h
def Wn{f g:α->σ->Option (σ⊕bZ)}:∀{l:List α} {s:σ} {r:σ⊕bZ},(∀x∈l,∀s r,f x s=some r->g x s=some r)->bP f l s=some r->bP g l s=some r
 |[],s,r,_,h=>h
 |x::l,s,r,A,h=>by
  simp only[bP]at h⊢;split at h;.rename_i s' u;rw[A x (cS ..) _ _ u];exact Wn (λ y D=>A y (cz _ D)) h
  .rename_i F u;rw[A x (cS ..) _ _ u];exact h
  cases h
structure iD (N M:aT):Prop where
 r:N.R=M.R
 e:N.E<+:M.E
 v:N.V<+:M.V
 c:N.C<+:M.C
theorem iD.refl(N:aT):iD N N:=⟨rfl,rQ _,rQ _,rQ _⟩
def iD.trans{A B C:aT}(h:iD A B)(k:iD B C):iD A C:=⟨h.r.trans k.r,h.e.trans k.e,h.v.trans k.v,h.c.trans k.c⟩
theorem iD.add(N:aT)(x:Oc)(l:List El)(s:BitVec 64):iD N (N.add x l s):=⟨rfl,⟨_,rfl⟩,⟨_,rfl⟩,⟨_,rfl⟩⟩
variable{N M:aT}
def amw(h:iD N M)(e:sq N l=some s):sq M l=some s:=by
 unfold sq at e⊢;split at e
 .rename_i r F
  have:bP (Ag M) l 0#64=some (.inl r):=Wn (λ x _ s r u=>by
   unfold Ag at u⊢;split at u
   .rename_i y D;rw[tO h.e D];split at u
    .rename_i A;simp only[ao A];split at u;.rename_i c G;rw[tO h.c G];exact u
     cases u
    rename_i A;simp only[aj A];exact u
   cases u) F
  rw[this];exact e
 cases e
def Ij(h:iD N M){x:Oc}(e:qW N x=some l):qW M x=some l:=by unfold qW at e⊢;rw[<-h.r];exact e
def azf(h:iD N M)(u:zf N e k=some b):zf M e k=some b:=by
 unfold zf at u⊢;split at u;.rename_i y A;rw[tO h.e A];exact u
 cases u
def au1(h:iD N M){f:Int}(u:ahead N e f=some b):ahead M e f=some b:=by
 unfold ahead at u⊢;split at u
 .rename_i x y G F;rw[tO h.v G,tO h.v F];simp only;split at u
  .rename_i mk J;rw[Bq (λ k _ b K=>azf h K) J];simp only;split at u;.rename_i D;rw[ao D];exact u
   rename_i D;rw[aj D];split at u;.rename_i A;rw[ao A];exact u
   rename_i A;rw[aj A];split at u;.rename_i Y L;rw[Ij h L];exact u
   cases u
  cases u
 cases u
def alp(h:iD N M){f:Int}(A:xd N e f=some b):xd M e f=some b:=by
 unfold xd at A⊢;split at A;.rename_i D;rw[ao D];exact A
 rename_i D;rw[aj D];split at A
 .rename_i x y G F;rw[tO h.v G,tO h.v F];simp only;split at A;.rename_i u v K J;rw[Ij h K,Ij h J];exact A
  cases A
 cases A
def amA(h:iD N M){f:Int}(u:before N o f e=some b):before M o f e=some b:=by
 unfold before at u⊢;split at u;.rename_i A;rw[ao A];exact u
 rename_i A;rw[aj A];exact au1 h u
def ready_mono(h:iD N M){f:Int}(u:ready N l o f=some b):ready M l o f=some b:=by
 unfold ready at u⊢;split at u;.rename_i A;rw[ao A];exact u
 rename_i A;rw[aj A];split at u;.rename_i c F;rw[Bq (λ k _ b D=>amA h D) F];exact u
 cases u
def aeI(h:iD N M):∀{k:Nat} {o:List Int} {r:List Int×Bool},vA N l k o=some r->vA M l k o=some r
 |0,o,r,e=>by cases e
 |k+1,o,r,e=>by
  simp only[vA]at e⊢;split at e
  .rename_i A;rw[ao A];split at e
   .rename_i z D;rw[aeE (λ k _ b F=>ready_mono h F) D];simp only;split at e;.rename_i u;rw[ao u];exact e
    rename_i u;rw[aj u];split at e;.rename_i x G;exact aeI h e
    cases e
   cases e
  rename_i A;rw[aj A];exact e
def Xi(h:iD N M)(u:wk N s e=some b):wk M s e=some b:=by
 unfold wk at u⊢;split at u
 .rename_i c F;rw[tO h.c F];simp only;split at u;.rename_i A;rw[ao A];exact Bq (λ k _ b D=>alp h D) u
  rename_i A;rw[aj A];exact u
 cases u
def YJ(h:iD N M)(u:ux N s=some b):ux M s=some b:=by
 unfold ux at u⊢;split at u;.rename_i D;rw[Bq (λ k _ b A=>Xi h A) D];exact u
 .rename_i D;rw[Bq (λ k _ b A=>Xi h A) D];simp only;split at u;.rename_i r F;rw[aeI h F];exact u
  cases u
 cases u
def alq(h:iD N M){x:Oc}(u:xT N x e=some b):xT M x e=some b:=by
 unfold xT at u⊢;split at u
 .rename_i y A;rw[tO h.v A];simp only;split at u;.rename_i F D;rw[Ij h D];exact u
  cases u
 cases u
def ajL(h:iD N M){x:Oc}(u:rF N x=some b):rF M x=some b:=by
 unfold rF at u⊢;split at u
 .rename_i s F;rw[amw h F];simp only;split at u
  .rename_i D;rw[YJ h D];simp only;split at u;.rename_i c A;rw[Bq (λ k _ b G=>alq h G) A];exact u
   cases u
  .rename_i D;rw[YJ h D];exact u
  cases u
 cases u
def yO:∀{l:List α},jy p l=some false↔∀x∈l,p x=some false
 |[]=>by simp[jy]
 |x::l=>by
  simp only[jy];constructor
  .intro h;split at h;.cases h
   .rename_i A;intro y u;rcases ck.1 u with rfl|u
    .exact A
    exact yO.1 h y u
   cases h
  intro h;rw[h x (cS ..)];exact yO.2 λ y u=>h y (cz _ u)
def awj(h:iD N M){x:Oc}{c:Int}(F:c<=d){p:Int×Nat}(u:qD N lN x c p=some false):qD M lN x d p=some false:=by
 unfold qD at u⊢;split at u;.cases u
 rename_i G;rw[aj G];split at u;.cases u
 rename_i J;rw[aj (by omega)];split at u;.rename_i y kind A D;rw[tO h.e A,D];exact u
 cases u
def ayJ(h:iD N M){x:Oc}{c:Int}(F:c<=d){p:Int×Nat}(u:rk N lE x c p=some false):rk M lE x d p=some false:=by
 unfold rk at u⊢;split at u;.cases u
 rename_i G;rw[aj G];split at u;.cases u
 rename_i J;rw[aj (by omega)];split at u;.rename_i y kind A D;rw[tO h.e A,D];exact u
 cases u
def ayc(h:iD N M){x:Oc}{c:Int}(A:c<=d)(u:fits N x c=some true):fits M x d=some true:=by
 unfold fits at u⊢;rw[<-h.r];split at u;.cases u
 rename_i L;rw[aj L];split at u;.cases u
 rename_i K;rw[aj K];split at u
 .rename_i r Y;split at u
  .rename_i G;simp only[ao G];split at u;.cases u
   .rename_i J;rw[yO.2 λ p D=>awj h A (yO.1 J p D)];simp only;split at u
    .rename_i b F;have:b=false:=by cases b<;>simp at u⊢
     subst this;rw[yO.2 λ p D=>ayJ h A (yO.1 F p D)];rfl
    cases u
   cases u
  cases u
 cases u
end
section
open Go.Proofs
def Zd{f:α->σ->Option (σ⊕bZ)}:∀{l m:List α} {s s':σ},bP f l s=some (.inl s')->bP f (l++m) s=bP f m s'
 |[],m,s,s',h=>by cases h;rfl
 |x::l,m,s,s',h=>by
  simp only[bP,zC]at h⊢;split at h;.exact Zd h
  .cases h
  cases h
def QL{f:α->σ->Option (σ⊕bZ)}{I:σ->Prop}:∀{l:List α} {s s':σ},(∀x∈l,∀s s',I s->f x s=some (.inl s')->I s')->I s->bP f l s=some (.inl s')->I s'
 |[],s,s',_,hi,h=>by cases h;exact hi
 |x::l,s,s',u,hi,h=>by
  simp only[bP]at h;split at h;.rename_i F D;exact QL (λ y A=>u y (cz _ A)) (u x (cS ..) _ _ hi D) h
  .cases h
  cases h
def Km{N:aT}{x:Oc}{ev fr:Int}{l:List El}(h:vU N x ev fr=some l):∀y∈l,y.ev=ev:=by
 unfold vU at h;split at h
 .rename_i r J;split at h
  .rename_i s D
   have G:∀y∈s.1,y.ev=ev:=QL (I:=λ s:MS=>∀y∈s.1,y.ev=ev) (λ p _ s s' hi u=>by
    unfold xI at u;split at u
    .split at u
     .split at u
      .split at u
       .split at u;.cases u;exact hi
        cases u
       cases u
      cases u;intro y A;simp only[jA,dp]at A;rcases A with A|rfl
      .exact hi y A
      rfl
     cases u
    cases u) (by simp) D
   split at h
   .rename_i o F;cases h
    exact QL (I:=λ s:List El=>∀y∈s,y.ev=ev) (λ p _ s s' hi u=>by
     unfold yR at u;split at u
     .split at u;.cases u;exact hi
      split at u
      .cases u;intro y A;simp only[jA,dp]at A;rcases A with A|rfl
       .exact hi y A
       rfl
      cases u
     cases u) G F
   cases h
  cases h
 cases h
structure zg (r:RU):Prop where
 ln:r.lN.length<=2
 le:r.lE.length<=2
 ee:∀e∈r.lE,0<=e.fr/\e.fr<r.lN.length/\0<=e.to/\e.to<r.lN.length
 kn:∀k∈r.kN,0<=k/\k<r.lN.length
 ik:r.iN.length<=r.kN.length
 rn:r.rN.length<=10
 re:r.rE.length<=10
 rr:∀e∈r.rE,0<=e.fr/\e.fr<r.rN.length/\0<=e.to/\e.to<r.rN.length
 ke:r.kE.length<=1000
 ie:r.iE.length<=1000
 kl:r.kN.length<=1000
 rc:Hy r
structure qL (N:aT) (x:Oc):Prop where
 us:∀k∈gO x,0<=k/\k<N.E.length
 ru:∃r,df N.R x.ru=some r/\x.no.length=r.lN.length/\x.ed.length=r.lE.length
def BB(s:BitVec 64)(m:Nat):Prop:=∀i,s.toNat.testBit i=true->i<m
structure jV (N:aT):Prop where
 ro:∀r∈N.R,zg r
 cv:N.C.length=N.V.length
 vl:N.V.length<=30
 el:∀y∈N.E,y.ev<N.V.length
 oc:∀x∈N.V,qL N x
 ca:∀c∈N.C,BB c N.V.length
inductive nA (R:List RU) (E0:List El):aT->Prop where
 |nil:nA R E0 ⟨R,E0,[],[]⟩
 |add {N:aT} {x:Oc} {l:List El} {s:BitVec 64}:nA R E0 N->jV N->qL N x->fits N x N.E.length=some true->sO N x=false->rF N x=some true->vU N x N.V.length N.E.length=some l->sq N (gO x)=some s->(N.E++l).length<=200->nA R E0 (N.add x l s)
variable{R:List RU}{E0:List El}{N:aT}
def nA.aE(h0:∀y∈E0,y.ev= -1)(h:nA R E0 N):∀y∈N.E,y.ev<N.V.length:=by
 induction h with
 |nil=>intro y u;have:=h0 y u;show y.ev<0;omega
 | @add N x l s F _ _ _ _ _ D _ _ A=>
  intro y u;have u:y∈N.E++l:=u;show y.ev<((N.V++[x]).length:Int);rw[dM,zH];rcases jA.1 u with u|u
  .have:=A y u;omega
  have:=Km D y u;omega
theorem nA.cut(h0:∀y∈E0,y.ev= -1)(h:nA R E0 N):∀{k:Nat},k<=N.V.length->∃M,nA R E0 M/\M.V=N.V.take k/\M.E=N.E.filter (λ y=>decide (y.ev<(k:Int))):=by
 induction h with
 |nil=>
  intro k F;have:k=0:=by simpa using F
  subst this;refine⟨_,.nil,rfl,?_⟩;show E0=E0.filter _;rw[List.filter_eq_self.2];intro y u;have:=h0 y u;exact dV (by rw[this];decide)
 | @add N x l s hh b1 b2 a1 a2 a3 G a4 a5 Y=>
  intro k F;have F:k<=(N.V++[x]).length:=F;rw[dM,zH]at F;by_cases A:k<=N.V.length
  .obtain⟨M,L,K,m3⟩:=Y A;refine⟨M,L,?_,?_⟩;.show M.V=(N.V++[x]).take k;rw[List.take_append_of_le_length A];exact K
   show M.E=(N.E++l).filter _;have Z:l.filter (λ y=>decide (y.ev<(k:Int)))=[]:=Vp.2 ?_;.rw[aiL,m3,Z,oq]
   intro y u;have:=Km G y u;simp;omega
  have D:k=(N.V++[x]).length:=by rw[dM,zH];omega
  have J:nA R E0 (N.add x l s):=.add hh b1 b2 a1 a2 a3 G a4 a5;refine⟨_,J,?_,?_⟩;.show N.V++[x]=(N.V++[x]).take k;rw[D,aiw]
  show(N.add x l s).E=(N.add x l s).E.filter _;rw[List.filter_eq_self.2];intro y u;have:=J.aE h0 y u;have e:(N.add x l s).V.length=k:=D.symm;exact dV (by omega)
def uX(N:aT)(x:Oc):Option (aT×Bool):=match vU N x N.V.length N.E.length,sq N (gO x)with
 |some l,some s=>some (N.add x l s,decide (((N.E++l).length:Int)<=200))
 |_,_=>none
open Classical in
noncomputable def r8(vE:List El)(x:Oc)(N:aT):Option (aT⊕bZ):=
 match fits N x N.E.length,sO N x,rF N x,uX N x with
 |some true,false,some true,some (M,true)=>if(M.E.length<=vE.length/\(vE.take M.E.length).drop N.E.length=M.E.drop N.E.length)/\jV N/\qL N x/\N.E.length<=200 then some (.inl M)else none
 |_,_,_,_=>none
def nA.read(h:nA R E0 N)(u:N.E<+:vE):bP (r8 vE) N.V ⟨R,E0,[],[]⟩=some (.inl N):=by
 induction h with
 |nil=>rfl
 | @add N x l s K b1 b2 a1 a2 a3 F a4 J D=>
  have u:N.E++l<+:vE:=u;have A:N.E<+:vE:=(Ii _ _).trans u;show bP (r8 vE) (N.V++[x]) _=_;rw[Zd (D A)];have G:uX N x=some (N.add x l s,true):=by unfold uX;rw[F,a4];simp only[dV (show((N.E++l).length:Int)<=200 by omega)]
  simp only[bP,r8,a1,a2,a3,G];have e:(N.add x l s).E=N.E++l:=rfl;rw[ao];refine⟨⟨u.length_le,?_⟩,b1,b2,by rw[dM]at J;omega⟩;rw[e];obtain⟨t,rfl⟩:=u;rw[aiP]
structure FSx where
 gN:List Int
 gE:List Ed
 n:Nat
def qF(X:El×Nat->FSx->bZ)(p:El×Nat)(s:FSx):Option (FSx⊕bZ):=
 if 1000<s.n then none else if p.1.ev= -1 then
  if p.1.ed then(if s.gE.length<=1000 then some (.inl ⟨s.gN,s.gE++[⟨p.1.ty,p.1.fr,p.1.to⟩],s.n+1⟩)else none)
  else if s.gE=[]/\p.1.fr=0/\p.1.to=0/\s.gN.length<=1000 then some (.inl ⟨s.gN++[p.1.ty],s.gE,s.n+1⟩)else none
 else some (.inr (X p s))
def ab9{X:El×Nat->FSx->bZ}:∀{lN:List Int} {j:Nat} {s:FSx} {m:List (El×Nat)},s.gE=[]->s.gN.length+lN.length<=1000->s.n+lN.length<=1000->bP (qF X) ((lN.map vC).zipIdx j++m) s=bP (qF X) m ⟨s.gN++lN,s.gE,s.n+lN.length⟩
 |[],j,s,m,_,_,_=>by simp
 |a::lN,j,s,m,h,A,u=>by
  simp only[cD]at A u;simp only[fL,Nq,zC,bP];have:qF X (vC a,j) s=some (.inl ⟨s.gN++[a],s.gE,s.n+1⟩):=by simp only[qF,vC,jz];rw[aj (by omega),aj (by decide),ao ⟨h,trivial,trivial,by omega⟩]
  rw[this];simp only;rw[ab9 (lN:=lN) (s:=⟨s.gN++[a],s.gE,s.n+1⟩) h (by simp;omega) (by simp;omega)];simp only[vH,Vt,cD];rw[Nat.add_right_comm,Bz]
def Xn{X:El×Nat->FSx->bZ}:∀{lE:List Ed} {j:Nat} {s:FSx} {m:List (El×Nat)},s.gE.length+lE.length<=1000->s.n+lE.length<=1000->bP (qF X) ((lE.map xh).zipIdx j++m) s=bP (qF X) m ⟨s.gN,s.gE++lE,s.n+lE.length⟩
 |[],j,s,m,_,_=>by simp
 |a::lE,j,s,m,u,h=>by
  simp only[cD]at u h;simp only[fL,Nq,zC,bP];have:qF X (xh a,j) s=some (.inl ⟨s.gN,s.gE++[a],s.n+1⟩):=by simp only[qF,xh,jz];rw[aj (by omega),ao (by omega)]
  rw[this];simp only;rw[Xn (lE:=lE) (s:=⟨s.gN,s.gE++[a],s.n+1⟩) (by simp;omega) (by simp;omega)];simp only[vH,Vt,cD];rw[Nat.add_right_comm,Bz]
def auT{X:El×Nat->FSx->bZ}(u:lN.length+lE.length<=1000){m:List El}(h:∀y∈m,y.ev≠-1):
 ∃r,bP (qF X) (fc lN lE++m).zipIdx ⟨[],[],0⟩=some r/\(r=.inl ⟨lN,lE,lN.length+lE.length⟩\/∃p,r=.inr (X p ⟨lN,lE,lN.length+lE.length⟩)):=by
 unfold fc;rw[vH,List.zipIdx_append,List.zipIdx_append,ab9 rfl (by simp;omega) (by simp;omega),Xn (by simp;omega) (by simp;omega)];simp only[jS,iX];cases m;.exact⟨_,rfl,.inl rfl⟩
 .rename_i y m;simp only[Nq,bP,qF];rw[aj (by omega),aj (h y (cS ..))];exact⟨_,rfl,.inr ⟨_,rfl⟩⟩
end
section
open Go.Proofs
variable{N:aT}{el:El}{m:List Int}
def ph(lN:List Int)(lE:List Ed)(x:Oc)(h:Oc->List Oc->Option (List Oc))(p:El×Nat)(fr:List Oc):Option (List Oc⊕bZ):=
 if x.no.length<lN.length then
  match lN[x.no.length]?with
  |some kind=>if w9 p.1 kind=true then
   (if fW x.no p.2 then some (.inl fr)else match h ⟨x.ru,x.no++[(p.2:Int)],x.ed⟩ fr with|some r=>some (.inl r)|none=>none)
   else some (.inl fr)
  |none=>none
 else match lE[x.ed.length]?with
  |some e=>(match wb p.1 e x.no with
   |some true=>if fW x.ed p.2 then some (.inl fr)else(match h ⟨x.ru,x.no,x.ed++[(p.2:Int)]⟩ fr with|some r=>some (.inl r)|none=>none)
   |some false=>some (.inl fr)
   |none=>none)
  |none=>none
def mt(N:aT)(lN:List Int)(lE:List Ed)(count:Nat):Nat->Oc->List Oc->Option (List Oc)
 |0,_,_=>none
 |f+1,x,fr=>
  if x.no.length=lN.length/\x.ed.length=lE.length then(match yj N x with|some z=>some (if z then fr++[x]else fr)|none=>none)
  else match bP (ph lN lE x (mt N lN lE count f)) (N.E.take count).zipIdx fr with
   |some (.inl r)=>some r
   |_=>none
def MX{f:α×Nat->σ->Option (σ⊕bZ)}{I:Nat->σ->Prop}:∀{l:List α} {i:Nat} {s s':σ},(∀y j s s',l[j]? =some y->I (i+j) s->f (y,i+j) s=some (.inl s')->I (i+j+1) s')->I i s->bP f (l.zipIdx i) s=some (.inl s')->I (i+l.length) s'
 |[],i,s,s',_,hi,h=>by cases h;exact hi
 |x::l,i,s,s',A,hi,h=>by
  simp only[Nq,bP]at h;split at h
  .rename_i K J;have G:=MX (I:=I) (l:=l) (i:=i+1) (λ y j s s' D F u=>by have:=A y (j+1) s s' (by simpa using D);rw[show i+(j+1)=i+1+j by omega]at this;exact this F u) (A x 0 _ _ (by simp) hi J) h
   simp only[cD];rw[show i+(l.length+1)=i+1+l.length by omega];exact G
  .cases h
  cases h
structure nG (N:aT) (lN:List Int) (lE:List Ed) (count:Nat) (x y:Oc):Prop where
 ru:y.ru=x.ru
 no:x.no<+:y.no
 ed:x.ed<+:y.ed
 ln:y.no.length=lN.length
 le:y.ed.length=lE.length
 new:yj N y=some true
 fn:∀i k,x.no.length<=i->y.no[i]? =some k->qD N lN y count (k,i)=some false
 fe:∀i k,x.ed.length<=i->y.ed[i]? =some k->rk N lE y count (k,i)=some false
def aaj(h:l<+:m){k:Int}:fW (m.take l.length) k=fW l k:=by obtain⟨t,rfl⟩:=h;rw[aiP]
def amF(h:l<+:m)(e:l.length=m.length):l=m:=h.eq_of_length e
def nG.node{x:Oc}{kind:Int}(h:nG N lN lE count ⟨x.ru,x.no++[(j:Int)],x.ed⟩ y)(A:(N.E.take count)[j]? =some el)(J:lN[x.no.length]? =some kind)(L:w9 el kind=true)(K:fW x.no j=false):nG N lN lE count x y where
 ru:=h.ru
 no:=(Ii _ _).trans h.no
 ed:=h.ed
 ln:=h.ln
 le:=h.le
 new:=h.new
 fn:=λ i k hi u=>by
  rcases Nat.lt_or_eq_of_le hi with e|e
  .exact h.fn i k (by simp;omega) u
  subst e;have D:y.no[x.no.length]? =some (j:Int):=by obtain⟨t,G⟩:=h.no;rw[<-G];simp
  rw[D]at u;cases u
  have F:j<count/\N.E[j]? =some el:=by
   rw[qw]at A;split at A;.rename_i M;exact⟨M,A⟩
   cases A
  unfold qD;simp only;rw[aj (by omega),aj (by omega),Hl,F.2,J];simp only[L,jz];rw[aaj ((Ii _ _).trans h.no),K]
 fe:=h.fe
def nG.auO{x:Oc}{e:Ed}(h:nG N lN lE count ⟨x.ru,x.no,x.ed++[(j:Int)]⟩ y)(Z:lN.length<=x.no.length)(A:(N.E.take count)[j]? =some el)(K:lE[x.ed.length]? =some e)(M:wb el e x.no=some true)(L:fW x.ed j=false):nG N lN lE count x y where
 ru:=h.ru
 no:=h.no
 ed:=(Ii _ _).trans h.ed
 ln:=h.ln
 le:=h.le
 new:=h.new
 fn:=h.fn
 fe:=λ i k hi u=>by
  rcases Nat.lt_or_eq_of_le hi with e'|e'
  .exact h.fe i k (by simp;omega) u
  subst e';have G:y.ed[x.ed.length]? =some (j:Int):=by obtain⟨t,J⟩:=h.ed;rw[<-J];simp
  rw[G]at u;cases u
  have F:j<count/\N.E[j]? =some el:=by
   rw[qw]at A;split at A;.rename_i Y;exact⟨Y,A⟩
   cases A
  have D:x.no=y.no:=amF h.no (by have h1:=h.ln;have h2:x.no.length<=y.no.length:=h.no.length_le;omega);unfold rk;simp only;rw[aj (by omega),aj (by omega),Hl,F.2,K];simp only[<-D,M];rw[aaj ((Ii _ _).trans h.ed),L]
def nodup_append{l m:List α}(u:l.Nodup)(h:m.Nodup)(h3:∀a∈l,∀b∈m,a≠b):(l++m).Nodup:=List.nodup_append.2 ⟨u,h,h3⟩
def ayA:∀{f:Nat} {x:Oc} {fr r:List Oc},x.no.length<=lN.length->mt N lN lE count f x fr=some r->∃new,r=fr++new/\(∀y∈new,nG N lN lE count x y)/\new.Nodup:=by
 intro f;induction f with
 |zero=>intro x fr r _ h;cases h
 |succ f ih=>
  intro x fr r M h;simp only[mt]at h;split at h
  .rename_i hc;split at h
   .rename_i z hz;cases h;cases z;.exact⟨[],by simp,by simp,aiQ⟩
    refine⟨[x],by simp,λ y D=>?_,by simp⟩;simp only[dp]at D;subst D;refine⟨rfl,rQ _,rQ _,hc.1,hc.2,hz,λ i k hi F=>?_,λ i k hi F=>?_⟩;.rw[ma hi]at F;cases F
    rw[ma hi]at F;cases F
   cases h
  rename_i hc;split at h
  .rename_i r' hr;cases h;have Z:=MX (I:=λ j s=>∃new,s=fr++new/\(∀y∈new,nG N lN lE count x y/\∃k:Nat,k<j/\(if x.no.length<lN.length then y.no[x.no.length]? =some (k:Int)else y.ed[x.ed.length]? =some (k:Int)))/\new.Nodup) (l:=N.E.take count) (i:=0) (s:=fr) (s':=r) ?_ ⟨[],by simp,by simp,aiQ⟩ hr;.obtain⟨new,h1,h2,h3⟩:=Z;exact⟨new,h1,λ y D=>(h2 y D).1,h3⟩
   intro el j s s' hj ⟨new,i1,i2,i3⟩ A;rw[iX]at A⊢i2;have kV:∀y∈new,nG N lN lE count x y/\∃k:Nat,k<j+1/\(if x.no.length<lN.length then y.no[x.no.length]? =some (k:Int)else y.ed[x.ed.length]? =some (k:Int)):=λ y D=>by obtain⟨a,k,b,c⟩:=i2 y D;exact⟨a,k,by omega,c⟩
   have add:∀u:List Oc,s'=s++u->(∀y∈u,nG N lN lE count x y/\(if x.no.length<lN.length then y.no[x.no.length]? =some (j:Int)else y.ed[x.ed.length]? =some (j:Int)))->u.Nodup->∃new,s'=fr++new/\(∀y∈new,nG N lN lE count x y/\∃k:Nat,k<j+1/\(if x.no.length<lN.length then y.no[x.no.length]? =some (k:Int)else y.ed[x.ed.length]? =some (k:Int)))/\new.Nodup:=by
    intro u n1 G L;refine⟨new++u,by rw[n1,i1,vH],λ y D=>?_,nodup_append i3 L λ a ha b hb e=>?_⟩
    .rcases jA.1 D with D|D
     .exact kV y D
     obtain⟨a,b⟩:=G y D;exact⟨a,j,by omega,b⟩
    subst e;obtain⟨_,k,k1,k2⟩:=i2 a ha;obtain⟨_,Y⟩:=G a hb;split at k2;.rename_i K;rw[ao K,k2]at Y;simp only[lz]at Y;omega
    rename_i K;rw[aj K,k2]at Y;simp only[lz]at Y;omega
   have same:s'=s->∃new,s'=fr++new/\(∀y∈new,nG N lN lE count x y/\∃k:Nat,k<j+1/\(if x.no.length<lN.length then y.no[x.no.length]? =some (k:Int)else y.ed[x.ed.length]? =some (k:Int)))/\new.Nodup:=λ e=>⟨new,by rw[e];exact i1,kV,i3⟩
   unfold ph at A;split at A
   .rename_i K;split at A
    .rename_i kind F;split at A
     .rename_i hf;split at A;.cases A;exact same rfl
      rename_i hh;split at A;.rename_i r2 J;cases A;obtain⟨u,n1,G,L⟩:=ih (by simp;omega) J;refine add u n1 (λ y D=>⟨(G y D).node hj F hf (by simpa using hh),?_⟩) L;rw[ao K];obtain⟨t,ht⟩:=(G y D).no;rw[<-ht];simp
      cases A
     cases A;exact same rfl
    cases A
   rename_i K;split at A
   .rename_i e F;split at A
    .rename_i hf;split at A;.cases A;exact same rfl
     rename_i hh;split at A;.rename_i r2 J;cases A;obtain⟨u,n1,G,L⟩:=ih (by simpa using M) J;refine add u n1 (λ y D=>⟨(G y D).auO (by omega) hj F hf (by simpa using hh),?_⟩) L;rw[aj K];obtain⟨t,ht⟩:=(G y D).ed;rw[<-ht];simp
     cases A
    .cases A;exact same rfl
    cases A
   cases A
  cases h
def L5{f:α->List β->Option (List β⊕bZ)}{p:α->Bool}:∀{l:List α} {s s':List β},(∀x∈l,∀s s',f x s=some (.inl s')->s'.length<=s.length+(if p x then B else 0))->bP f l s=some (.inl s')->s'.length<=s.length+(l.filter p).length*B
 |[],s,s',_,h=>by cases h;simp
 |x::l,s,s',A,h=>by
  simp only[bP]at h;split at h
  .rename_i G F;have a:=A x (cS ..) _ _ F;have b:=L5 (λ y D=>A y (cz _ D)) h;rw[NF];split;.rename_i u;rw[ao u]at a;rw[cD,xy];omega
   rename_i u;rw[aj u]at a;omega
  .cases h
  cases h
def uw(N:aT)(count:Nat):Nat:=((N.E.take count).zipIdx.filter λ p=> !p.1.ed).length
def sH(N:aT)(count:Nat):Nat:=((N.E.take count).zipIdx.filter λ p=>p.1.ed).length
def asm:uw N count+sH N count<=N.E.length:=by
 unfold uw sH
 have:∀l:List (El×Nat),(l.filter λ p=> !p.1.ed).length+(l.filter λ p=>p.1.ed).length=l.length:=by
  intro l;induction l with
  |nil=>rfl
  |cons a l h=>
   rw[NF,NF];cases a.1.ed<;>simp<;>omega
 rw[this,rP,n8];omega
def ajg:∀{f:Nat} {x:Oc} {fr r:List Oc},mt N lN lE count f x fr=some r->r.length<=fr.length+(uw N count+1)^(lN.length-x.no.length)*(sH N count+1)^(lE.length-x.ed.length):=by
 intro f;induction f with
 |zero=>intro x fr r h;cases h
 |succ f Y=>
  intro x fr r h;simp only[mt]at h;split at h
  .split at h;.rename_i z hz;cases h;have:0<(uw N count+1)^(lN.length-x.no.length)*(sH N count+1)^(lE.length-x.ed.length):=Nat.mul_pos (Nat.pow_pos (by omega)) (Nat.pow_pos (by omega));cases z<;>simp<;>omega
   cases h
  rename_i hc;split at h
  .rename_i r' J;cases h;by_cases L:x.no.length<lN.length
   .have:=L5 (p:=λ p:El×Nat=> !p.1.ed) (B:=(uw N count+1)^(lN.length-(x.no.length+1))*(sH N count+1)^(lE.length-x.ed.length)) (λ p _ s s' u=>by
     unfold ph at u;rw[ao L]at u;split at u
     .split at u
      .rename_i M;split at u;.cases u;omega
       split at u
       .rename_i r2 D;cases u;have:=Y D;simp only[dM,zH]at this;have F:p.1.ed=false:=by unfold w9 at M;cases h:p.1.ed<;>simp_all
        rw[F];exact this
       cases u
      cases u;omega
     cases u) J
    refine fX this (Nat.add_le_add_left ?_ _);rw[show lN.length-x.no.length=(lN.length-(x.no.length+1))+1 by omega,Ih];rw[BA ((uw N count+1)^_) (uw N count+1),aiK];exact mQ _ (jl _)
   have K:∀e,lE[x.ed.length]? =some e->x.ed.length<lE.length:=λ e G=>by rw[mR]at G;exact G.1
   have:=L5 (p:=λ p:El×Nat=>p.1.ed) (B:=(uw N count+1)^(lN.length-x.no.length)*(sH N count+1)^(lE.length-(x.ed.length+1))) (λ p _ s s' u=>by
    unfold ph at u;rw[aj L]at u;split at u
    .split at u
     .rename_i M;split at u;.cases u;omega
      split at u
      .rename_i r2 D;cases u;have:=Y D;simp only[dM,zH]at this;have F:p.1.ed=true:=by unfold wb at M;cases h:p.1.ed<;>simp_all
       rw[F];exact this
      cases u
     .cases u;omega
     cases u
    cases u) J
   by_cases Z:x.ed.length<lE.length;.refine fX this (Nat.add_le_add_left ?_ _);rw[show lE.length-x.ed.length=(lE.length-(x.ed.length+1))+1 by omega,Ih];generalize(uw N count+1)^(lN.length-x.no.length)=A;generalize(sH N count+1)^(lE.length-(x.ed.length+1))=B;rw[show A*(B*(sH N count+1))=(sH N count+1)*(A*B) by rw[BA,BA (sH N count+1) (A*B),BA (B*(sH N count+1)) A,aiK]];exact mQ _ (jl _)
   have h0:=L5 (p:=λ _:El×Nat=>false) (B:=0) (λ p _ s s' u=>by
    unfold ph at u;rw[aj L]at u;split at u;.rename_i e G;exact(Z (K e G)).elim
    cases u) J
   simp only[Nat.mul_zero,nY]at h0;omega
  cases h
end
section
open Go.Proofs
variable{p:α->Option Bool}{s:BitVec 64}
def pq{l:List α}{k:Int}(h0:0<=k)(h:k<l.length):∃x,df l k=some x/\x∈l:=by
 unfold df;rw[ao h0];have:k.toNat<l.length:=by omega
 exact⟨_,cW this,xC this⟩
def CF:∀{l:List α},(∀x∈l,∃b,p x=some b)->∃b,jy p l=some b
 |[],_=>⟨false,rfl⟩
 |x::l,h=>by
  obtain⟨b,A⟩:=h x (cS ..);simp only[jy,A];cases b;.exact CF λ y u=>h y (cz _ u)
  exact⟨true,rfl⟩
def RV:∀{l:List α} {i:Nat},(∀x∈l,∃b,p x=some b)->∃z,lg p i l=some z/\(z= -1\/∃j:Nat,z=j/\i<=j/\j<i+l.length)
 |[],i,_=>⟨-1,rfl,.inl rfl⟩
 |x::l,i,h=>by
  obtain⟨b,D⟩:=h x (cS ..);simp only[lg,D];cases b
  .obtain⟨z,F,u⟩:=RV (i:=i+1) λ y A=>h y (cz _ A)
   refine⟨z,F,?_⟩;rcases u with u|⟨j,a,b,c⟩
   .exact .inl u
   exact .inr ⟨j,a,by omega,by simp;omega⟩
  exact⟨i,rfl,.inr ⟨i,rfl,be _,by simp⟩⟩
def KV{f:α->σ->Option (σ⊕bZ)}{I:σ->Prop}:∀{l:List α} {s:σ},(∀x∈l,∀s,I s->∃s',f x s=some (.inl s')/\I s')->I s->∃s',bP f l s=some (.inl s')/\I s'
 |[],s,_,hi=>⟨s,rfl,hi⟩
 |x::l,s,h,hi=>by obtain⟨F,D,A⟩:=h x (cS ..) s hi;simp only[bP,D];exact KV (λ y u=>h y (cz _ u)) A
variable{N:aT}
def BB.or{b:BitVec 64}(h:BB a m)(k:BB b m):BB (a|||b) m:=λ i hi=>by rw[BitVec.toNat_or,Nat.testBit_or,nZ]at hi;exact hi.elim (h i) (k i)
def BB.zero:BB 0#64 m:=λ i hi=>by simp at hi
def BB.one{e:Nat}(h:e<m):BB (1#64<<<e) m:=λ i hi=>by rw[aBa,Nat.testBit_mod_two_pow,Nat.shiftLeft_eq]at hi;have u:(1#64).toNat=1:=rfl;rw[u,Nat.one_mul,Nat.testBit_two_pow]at hi;simp at hi;omega
def BB.mono(h:BB s m)(u:m<=k):BB s k:=λ i hi=>dF (h i hi) u
def LI(h:BB s m)(u:e∈dH s):0<=e/\e<m:=by unfold dH tg at u;simp only[eK,Vq]at u;obtain⟨n,⟨_,A⟩,rfl⟩:=u;have:=h n A;omega
def Iq(u:jV N){l:List Int}(L:∀k∈l,0<=k/\k<N.E.length):∃s,sq N l=some s/\BB s N.V.length:=by
 have:=KV (f:=Ag N) (I:=λ o=>BB o N.V.length) (l:=l) (s:=0#64) (λ k M o G=>by
  obtain⟨h0,F⟩:=L k M;obtain⟨y,J,K⟩:=pq h0 F;unfold Ag;rw[J];simp only;have A:=u.el y K;by_cases h:0<=y.ev;.rw[ao h];obtain⟨c,Y,D⟩:=pq (l:=N.C) h (by rw[u.cv];exact A);rw[Y];exact⟨_,rfl,G.or ((BB.one (by omega)).or (u.ca c D))⟩
  rw[aj h];exact⟨_,rfl,G⟩) BB.zero
 obtain⟨s,F,Z⟩:=this;exact⟨s,by unfold sq;rw[F],Z⟩
def Jr{x:Oc}(h:∃r,df N.R x.ru=some r/\x.no.length=r.lN.length/\x.ed.length=r.lE.length):∃l,qW N x=some l:=by obtain⟨r,u,_⟩:=h;exact⟨_,by unfold qW;rw[u]⟩
def akT(u:jV N){f:Int}(D:0<=e/\e<N.V.length)(A:0<=f/\f<N.V.length):∃b,ahead N e f=some b:=by
 obtain⟨x,K,J⟩:=pq D.1 D.2;obtain⟨y,G,h⟩:=pq A.1 A.2;unfold ahead;rw[K,G];simp only;obtain⟨mk,L⟩:=CF (p:=zf N e) (l:=gO y) λ k M=>by obtain⟨a,b⟩:=(u.oc y h).us k M;obtain⟨z,F,_⟩:=pq a b;exact⟨_,by unfold zf;rw[F]⟩
 rw[L];simp only;obtain⟨Z,Y⟩:=Jr (u.oc y h).ru;rw[Y];split;.exact⟨_,rfl⟩
 split<;>exact⟨_,rfl⟩
def ap4(A:jV N){f:Int}(F:0<=e/\e<N.V.length)(D:0<=f/\f<N.V.length):∃b,xd N e f=some b:=by obtain⟨x,J,u⟩:=pq F.1 F.2;obtain⟨y,G,h⟩:=pq D.1 D.2;unfold xd;rw[J,G];simp only;obtain⟨a,L⟩:=Jr (A.oc x u).ru;obtain⟨b,K⟩:=Jr (A.oc y h).ru;rw[L,K];split<;>exact⟨_,rfl⟩
def azW(h:jV N){l o:List Int}(u:∀e∈l,0<=e/\e<N.V.length){f:Int}(A:0<=f/\f<N.V.length):∃b,ready N l o f=some b:=by
 unfold ready;split;.exact⟨_,rfl⟩
 obtain⟨b,F⟩:=CF (p:=before N o f) (l:=l) λ e D=>by
  unfold before;split;.exact⟨_,rfl⟩
  exact akT h (u e D) A
 rw[F];exact⟨_,rfl⟩
def alP(D:jV N){l:List Int}(u:∀e∈l,0<=e/\e<N.V.length):∀{k:Nat} {o:List Int},o.length<=l.length->l.length<o.length+k->∃r,vA N l k o=some r:=by
 intro k;induction k with
 |zero=>intro o h0 h;omega
 |succ k A=>
  intro o h0 h;simp only[vA];split
  .obtain⟨z,J,G⟩:=RV (p:=ready N l o) (l:=l) (i:=0) λ f F=>azW D u (u f F)
   rw[J];simp only;rcases G with rfl|⟨j,rfl,_,K⟩
   .exact⟨_,by rw[ao (by omega)]⟩
   rw[aj (by omega),Hl,cW (by omega)];exact A (by simp;omega) (by simp;omega)
  exact⟨_,rfl⟩
def aAF(u:jV N){s:BitVec 64}(h:BB s N.V.length):∃b,ux N s=some b:=by
 unfold ux
 obtain⟨b,L⟩:=CF (p:=wk N s) (l:=dH s) λ e A=>by
  obtain⟨h0,D⟩:=LI h A;obtain⟨c,K,J⟩:=pq (l:=N.C) h0 (by rw[u.cv];exact D);unfold wk;rw[K];simp only;split;.exact CF λ f G=>ap4 u ⟨h0,D⟩ (LI h G)
  exact⟨_,rfl⟩
 rw[L];cases b;.obtain⟨r,F⟩:=alP u (l:=dH s) (k:=66) (o:=[]) (λ e A=>LI h A) (by simp) (by have:=Lg (s:=s);simp;omega);simp only[F];exact⟨_,rfl⟩
 exact⟨_,rfl⟩
def ayB(u:jV N){x:Oc}(G:∀k∈gO x,0<=k/\k<N.E.length):∃b,rF N x=some b:=by
 unfold rF;obtain⟨s,A,D⟩:=Iq u G;rw[A];simp only;obtain⟨b,L⟩:=aAF u D;rw[L];cases b;.exact⟨_,rfl⟩
 obtain⟨c,K⟩:=CF (p:=xT N x) (l:=dH s) λ e J=>by obtain⟨h0,A⟩:=LI D J;obtain⟨y,F,h⟩:=pq h0 A;obtain⟨a,M⟩:=Jr (u.oc y h).ru;exact⟨_,by unfold xT;rw[F];simp only;rw[M]⟩
 simp only[K];exact⟨_,rfl⟩
def aAD(u:jV N){x:Oc}(h:∀k∈gO x,0<=k/\k<N.E.length):∃b,yj N x=some b:=by
 unfold yj;split;.exact⟨_,rfl⟩
 exact ayB u h
def Rn(hn:jV N){x:Oc}(hx:∃r,df N.R x.ru=some r/\x.no.length=r.lN.length/\x.ed.length=r.lE.length)(ev fr:Int):∃l,vU N x ev fr=some l/\l.length<=20:=by
 obtain⟨r,hr,hl,_⟩:=hx;have ro:=hn.ro r (ni hr);unfold vU;rw[hr];simp only
 have h1:∀(l:List (Int×Nat)) (s:MS),s.1.length+l.length<=10->s.2.length+l.length<=10->∃s',bP (xI r x ev fr) l s=some (.inl s')/\s'.1.length<=s.1.length+l.length/\s'.2.length=s.2.length+l.length:=by
  intro l;induction l with
  |nil=>intro s _ _;exact⟨s,rfl,by simp,by simp⟩
  |cons p l K=>
   intro s Z Y;simp only[cD]at Z Y;obtain⟨z,hz,L⟩:=RV (p:=λ y=>some (decide ((p.2:Int)=y))) (l:=r.iN) (i:=0) λ _ _=>⟨_,rfl⟩
   have M:Lp r.iN p.2=some z:=hz
   have step:∃D,xI r x ev fr p s=some (.inl D)/\D.1.length<=s.1.length+1/\D.2.length=s.2.length+1:=by
    unfold xI;rw[ao ⟨by omega,by omega⟩,M];simp only;by_cases h:z>=0
    .rw[ao h];rcases L with rfl|⟨j,rfl,_,hj⟩
     .omega
     obtain⟨a,ha,ab⟩:=pq (l:=r.kN) (k:=(j:Int)) (by omega) (by have:=ro.ik;omega);rw[ha];simp only;obtain⟨b0,b1⟩:=ro.kn a ab;obtain⟨b,hb,_⟩:=pq (l:=x.no) b0 (by omega);rw[hb];exact⟨_,rfl,by simp,by simp⟩
    rw[aj h];exact⟨_,rfl,by simp,by simp⟩
   obtain⟨D,a1,a2,a3⟩:=step;obtain⟨s',b1,b2,b3⟩:=K D (by omega) (by omega);refine⟨s',by simp only[bP,a1];exact b1,?_,?_⟩<;>simp only[cD]<;>omega
 have A:r.rN.zipIdx.length=r.rN.length:=rP;have ac:r.rE.zipIdx.length=r.rE.length:=rP;obtain⟨s,a1,a2,a3⟩:=h1 r.rN.zipIdx ([],[]) (by simp[A];exact ro.rn) (by simp[A];exact ro.rn);rw[a1];simp only
 have h2:∀(l:List (Ed×Nat)) (o:List El),(∀p∈l,p.1∈r.rE)->o.length+l.length<=100->∃G,bP (yR r s.2 ev) l o=some (.inl G)/\G.length<=o.length+l.length:=by
  intro l;induction l with
  |nil=>intro o _ _;exact⟨o,rfl,by simp⟩
  |cons p l K=>
   intro o J ho;simp only[cD]at ho
   have step:∃F,yR r s.2 ev p o=some (.inl F)/\F.length<=o.length+1:=by
    unfold yR;rw[ao (by omega)];split;.exact⟨_,rfl,by omega⟩
    obtain⟨c1,c2,c3,c4⟩:=ro.rr p.1 (J p (cS ..));simp only[dG,iX,A]at a3;obtain⟨u,hu,_⟩:=pq (l:=s.2) c1 (by omega);obtain⟨v,hv,_⟩:=pq (l:=s.2) c3 (by omega);rw[hu,hv];exact⟨_,rfl,by simp⟩
   obtain⟨F,d1,d2⟩:=step;obtain⟨G,e1,e2⟩:=K F (λ q hq=>J q (cz _ hq)) (by omega);refine⟨G,by simp only[bP,d1];exact e1,?_⟩;simp only[cD];omega
 simp only[dG,iX,A]at a2;have:=ro.rn;have:=ro.re;obtain⟨o,b1,b2⟩:=h2 r.rE.zipIdx s.1 (λ p J=>by have:=aBe J;exact this) (by omega)
 rw[b1];exact⟨o,rfl,by omega⟩
theorem jV.add(u:jV N){x:Oc}(D:qL N x){l:List El}(G:∀y∈l,y.ev=N.V.length)(F:BB s N.V.length)(L:N.V.length<30):jV (N.add x l s)where
 ro:=u.ro
 cv:=by show(N.C++[s]).length=(N.V++[x]).length;simp[u.cv]
 vl:=by show(N.V++[x]).length<=30;simp;omega
 el:=λ y A=>by
  show y.ev<((N.V++[x]).length:Int);rw[dM,zH];rcases jA.1 (show y∈N.E++l from A)with h|h
  .have:=u.el y h;omega
  have:=G y h;omega
 oc:=λ y A=>by
  have up:qL N y->qL (N.add x l s) y:=λ h=>⟨λ k J=>by obtain⟨a,b⟩:=h.us k J;refine⟨a,?_⟩;show k<((N.E++l).length:Int);rw[dM];omega,h.ru⟩
  rcases jA.1 (show y∈N.V++[x]from A)with h|h
  .exact up (u.oc y h)
  simp only[dp]at h;subst h;exact up D
 ca:=λ c K=>by
  show BB c (N.V++[x]).length;rw[dM];rcases jA.1 (show c∈N.C++[s]from K)with h|h
  .exact(u.ca c h).mono (by omega)
  simp only[dp]at h;subst h;exact F.mono (by omega)
end
section
open Go.Proofs
variable{R:List RU}{k:Int}{r:RU}
variable{N:aT}
def axC{i:Int}(h:df N.R i=some r):¬i<0/\¬i>=N.R.length:=by
 unfold df at h;split at h;.rw[mR]at h;have:=h.1;omega
 cases h
def nG.fits(D:df N.R i=some r)(h:nG N r.lN r.lE count ⟨i,[],[]⟩ y):fits N y count=some true:=by
 have u:y.ru=i:=h.ru;obtain⟨G,F⟩:=axC D;unfold Abs.fits;rw[u,aj G,aj F,D];simp only[h.ln,h.le,vI,jz];have a1:jy (qD N r.lN y count) y.no.zipIdx=some false:=yO.2 λ p A=>by obtain⟨k,j⟩:=p;have:=Ig.1 A;exact h.fn j k (by simp) this
 have a2:jy (rk N r.lE y count) y.ed.zipIdx=some false:=yO.2 λ p A=>by obtain⟨k,j⟩:=p;have:=Ig.1 A;exact h.fe j k (by simp) this
 rw[a1,a2];rfl
structure Nc (N:aT) (y:Oc):Prop where
 fit:fits N y N.E.length=some true
 pos:rF N y=some true
 pre:sO N y=false
 ok:qL N y
def amo{c:Int}(h:qD N lN y c (k,i)=some false):0<=k/\k<c:=by
 unfold qD at h;simp only at h;split at h;.cases h
 split at h;.cases h
 omega
def ajN{c:Int}(h:rk N lE y c (k,i)=some false):0<=k/\k<c:=by
 unfold rk at h;simp only at h;split at h;.cases h
 split at h;.cases h
 omega
def adl(h:yj N y=some true):sO N y=false/\rF N y=some true:=by
 unfold yj at h;split at h;.cases h
 rename_i u;exact⟨by simpa using u,h⟩
def nG.avV(D:df N.R i=some r)(h:nG N r.lN r.lE N.E.length ⟨i,[],[]⟩ y):Nc N y where
 fit:=h.fits D
 pos:=(adl h.new).2
 pre:=(adl h.new).1
 ok:=⟨λ k u=>by
  unfold gO at u;rcases jA.1 u with u|u
  .obtain⟨j,A⟩:=VD u;exact amo (h.fn j k (by simp) A)
  obtain⟨j,A⟩:=VD u;exact ajN (h.fe j k (by simp) A),r,by rw[h.ru];exact D,h.ln,h.le⟩
def pK(N:aT)(p:RU×Nat)(fr:List Oc):Option (List Oc⊕bZ):=match mt N p.1.lN p.1.lE N.E.length 6 ⟨p.2,[],[]⟩ fr with
 |some r=>some (.inl r)
 |none=>none
def xn(N:aT):Option (List Oc):=match bP (pK N) N.R.zipIdx []with
 |some (.inl r)=>some r
 |_=>none
def W3(h:xn N=some fr):(∀y∈fr,Nc N y)/\fr.Nodup:=by
 unfold xn at h;split at h
 .rename_i r M;cases h
  have:=MX (f:=pK N) (I:=λ j s=>(∀y∈s,Nc N y/\y.ru<j)/\s.Nodup) (l:=N.R) (i:=0) (s:=[]) (s':=fr) (λ r j s s' Y ⟨F,L⟩ A=>by
   rw[iX]at A F⊢;unfold pK at A;split at A
   .rename_i r2 G;cases A;obtain⟨new,n1,D,K⟩:=ayA (iB _) G;subst n1;have J:df N.R (j:Int)=some r:=by rw[Hl];exact Y
    refine⟨λ y u=>?_,nodup_append L K λ a ha b Z e=>?_⟩
    .rcases jA.1 u with u|u
     .obtain⟨a,b⟩:=F y u;exact⟨a,by omega⟩
     exact⟨(D y u).avV J,by have:y.ru=j:=(D y u).ru;omega⟩
    subst e;have:=(F a ha).2;have h2:a.ru=j:=(D a Z).ru;omega
   cases A) ⟨by simp,aiQ⟩ M
  exact⟨λ y u=>(this.1 y u).1,this.2⟩
 cases h
def ass(hn:jV N)(hc:count<=N.E.length)(ro:zg r):∀{f:Nat} {x:Oc} {fr:List Oc},df N.R x.ru=some r->(∀k∈gO x,0<=k/\k<N.E.length)->x.no.length<=r.lN.length->x.ed.length<=r.lE.length->(r.lN.length-x.no.length)+(r.lE.length-x.ed.length)<f->∃s,mt N r.lN r.lE count f x fr=some s:=by
 intro f;induction f with
 |zero=>intro x fr _ _ _ _ h;omega
 |succ f ih=>
  intro x fr hr D M ab hf;simp only[mt];split;.obtain⟨b,hb⟩:=aAD hn D;rw[hb];exact⟨_,rfl⟩
  rename_i ac
  obtain⟨s,hs,_⟩:=KV (f:=ph r.lN r.lE x (mt N r.lN r.lE count f)) (I:=λ _=>True) (l:=(N.E.take count).zipIdx) (s:=fr) (λ p hp s _=>by
   have G:(p.2:Int)<N.E.length:=by have:=List.snd_lt_of_mem_zipIdx hp;rw[n8]at this;omega
   have F:∀(a b:List Int),gO ⟨x.ru,a,b⟩=a++b:=λ _ _=>rfl
   unfold ph;by_cases Y:x.no.length<r.lN.length
   .rw[ao Y,cW Y];simp only;split
    .split;.exact⟨_,rfl,trivial⟩
     obtain⟨t,L⟩:=ih (x:=⟨x.ru,x.no++[(p.2:Int)],x.ed⟩) (fr:=s) hr (λ k A=>by
      rw[F]at A;simp only[jA,dp]at A;rcases A with(A|rfl)|A
      .exact D k (Ej _ A)
      .exact⟨by omega,G⟩
      exact D k (ND _ A)) (by simp;omega) ab (by simp;omega)
     rw[L];exact⟨_,rfl,trivial⟩
    exact⟨_,rfl,trivial⟩
   rw[aj Y];have J:x.no.length=r.lN.length:=by omega
   have K:x.ed.length<r.lE.length:=by
    rcases rK x.ed.length r.lE.length with h|h
    .exact h
    exact(ac ⟨J,by omega⟩).elim
   rw[cW K];simp only;obtain⟨e1,e2,e3,e4⟩:=ro.ee _ (xC K)
   have Z:∃b,wb p.1 r.lE[x.ed.length] x.no=some b:=by
    unfold wb;obtain⟨u,D,_⟩:=pq (l:=x.no) e1 (by omega);obtain⟨v,hv,_⟩:=pq (l:=x.no) e3 (by omega);rw[D,hv];split
    .split;.simp only;split<;>exact⟨_,rfl⟩
     exact⟨_,rfl⟩
    exact⟨_,rfl⟩
   obtain⟨b,hb⟩:=Z;rw[hb];cases b;.exact⟨_,rfl,trivial⟩
   simp only;split;.exact⟨_,rfl,trivial⟩
   obtain⟨t,L⟩:=ih (x:=⟨x.ru,x.no,x.ed++[(p.2:Int)]⟩) (fr:=s) hr (λ k A=>by
    rw[F]at A;simp only[jA,dp]at A;rcases A with A|A|rfl
    .exact D k (Ej _ A)
    .exact D k (ND _ A)
    exact⟨by omega,G⟩) M (by simp;omega) (by simp;omega)
   rw[L];exact⟨_,rfl,trivial⟩) trivial
  rw[hs];exact⟨_,rfl⟩
def ad5(u:jV N):∃fr,xn N=some fr:=by
 obtain⟨s,D,_⟩:=KV (f:=pK N) (I:=λ _=>True) (l:=N.R.zipIdx) (s:=[]) (λ p F s _=>by
  have h:df N.R (p.2:Int)=some p.1:=by rw[Hl];exact Ig.1 F
  have ro:=u.ro p.1 (ni h);obtain⟨t,A⟩:=ass u (be _) ro (f:=6) (x:=⟨p.2,[],[]⟩) (fr:=s) h (by intro k G;cases G) (iB _) (iB _) (by have:=ro.ln;have:=ro.le;simp;omega);exact⟨_,by unfold pK;rw[A],trivial⟩) trivial
 exact⟨s,by unfold xn;rw[D]⟩
def auU(L:jV N)(hE:N.E.length<=220)(hR:N.R.length<=3)(h:xn N=some fr):fr.length<=500000000:=by
 unfold xn at h;split at h
 .rename_i r K;cases h
  have:=MX (f:=pK N) (I:=λ j s=>s.length<=j*160000000) (l:=N.R) (i:=0) (s:=[]) (s':=fr) (λ r j s s' M hi u=>by
   rw[iX]at u hi⊢;unfold pK at u;split at u
   .rename_i r2 D;cases u;have F:=ajg D;have ro:=L.ro r (jm M);have u:=asm (N:=N) (count:=N.E.length);simp only[dG,Vl]at F;generalize uw N N.E.length=a at F u;generalize sH N N.E.length=b at F u;have J:(a+1)^r.lN.length<=(a+1)^2:=Vv (by omega) ro.ln;have p2:(b+1)^r.lE.length<=(b+1)^2:=Vv (by omega) ro.le;have p3:=Ib J p2;have p4:(a+1)^2*(b+1)^2=((a+1)*(b+1))^2:=(Nat.mul_pow _ _ _).symm
    have G:(a+1)*(b+1)<=12400:=by
     have q:4*((a+1)*(b+1))<=(a+b+2)*(a+b+2):=by
      have:(a+b+2)*(a+b+2)=4*((a+1)*(b+1))+(if a<=b then(b-a)*(b-a)else(a-b)*(a-b)):=by
       split;.rename_i A;obtain⟨c,rfl⟩:=Nat.le.dest A;rw[aBh];simp only[Nat.mul_add,jR];have:=BA a c;omega
       rename_i A;obtain⟨c,rfl⟩:=Nat.le.dest (Nat.le_of_not_le A);rw[aBh];simp only[Nat.mul_add,jR];have:=BA b c;omega
      omega
     have q2:(a+b+2)*(a+b+2)<=222*222:=Ib (by omega) (by omega);omega
    have Z:((a+1)*(b+1))^2<=12400^2:=Nat.pow_le_pow_left G 2;have Y:(12400:Nat)^2=153760000:=by decide
    rw[xy];omega
   cases u) (by simp) K
  have h2:(0+N.R.length)*160000000<=3*160000000:=mQ _ (by omega);have:fr.length<=(0+N.R.length)*160000000:=this;omega
 cases h
open Classical in
noncomputable def uJ(most:Nat)(x:Oc)(s:aT×Bool):Option ((aT×Bool)⊕bZ):=if s.1.V.length<most/\s.2=true then(if jV s.1/\qL s.1 x/\s.1.E.length<=200 then(match uX s.1 x with|some t=>some (.inl t)|none=>none)else none)else some (.inl s)
def FP(most:Nat):Nat->aT->Option (aT×Bool)
 |0,_=>none
 |f+1,N=>match xn N with
  |some fr=>(match bP (uJ most) fr (N,true)with
   |some (.inl (M,ok))=>if N.V.length<M.V.length/\ok=true then FP most f M else some (M,ok)
   |_=>none)
  |none=>none
def avP{x:Oc}(h:xj x y=true):x=y:=by unfold xj at h;simp only[aR,Ek]at h;obtain⟨a,b,c⟩:=h;cases x;cases y;simp_all
def ayi{x:Oc}{l:List El}{s:BitVec 64}(h:sO N y=false)(u:y≠x):sO (N.add x l s) y=false:=by
 have h:N.V.any (xj y)=false:=h;show(N.V++[x]).any (xj y)=false;rw[List.any_append,h];simp only[xA,List.any_nil,En,aiE];cases e:xj y x;.rfl
 exact(u (avP e)).elim
def qL.up{M:aT}(h:iD N M){x:Oc}(k:qL N x):qL M x where
 us:=λ i hi=>by obtain⟨a,b⟩:=k.us i hi;exact⟨a,by have:=h.e.length_le;omega⟩
 ru:=by rw[<-h.r];exact k.ru
structure St (R:List RU) (E0:List El) (most:Nat) (M:aT):Prop where
 KZ:nA R E0 M
 qB:jV M
 len:M.E.length<=200
 ml:M.V.length<=most
def JY(hm:most<=30):∀{l:List Oc} {s:aT×Bool},(∀y∈l,Nc N y)->l.Nodup->(s.2=true->St R E0 most s.1/\iD N s.1/\∀y∈l,sO s.1 y=false)->(s.1.E.length<=220/\s.1.V.length<=30)->∃t,bP (uJ most) l s=some (.inl t)/\(t.2=true->St R E0 most t.1/\iD N t.1)/\t.1.E.length<=220/\t.1.V.length<=30
 |[],s,_,_,hi,hb=>⟨s,rfl,λ h=>⟨(hi h).1,(hi h).2.1⟩,hb⟩
 |x::l,s,Z,M,hi,hb=>by
  simp only[bP];have A:=List.nodup_cons.1 M;by_cases u:s.1.V.length<most/\s.2=true
  .obtain⟨st,pre,pr⟩:=hi u.2;have cx:=Z x (cS ..);have G:=cx.ok.up pre;obtain⟨J,F,ac⟩:=Rn st.qB G.ru s.1.V.length s.1.E.length;obtain⟨b1,K,ab⟩:=Iq st.qB G.us;have ha:uJ most x s=some (.inl (s.1.add x J b1,decide (((s.1.E++J).length:Int)<=200))):=by unfold uJ uX;rw[ao u,ao ⟨st.qB,G,st.len⟩,F,K]
   rw[ha];simp only;have Y:∀y∈J,y.ev=s.1.V.length:=Km F;refine JY hm (λ y D=>Z y (cz _ D)) A.2 (λ L=>?_) ⟨?_,?_⟩
   .simp only[Ek]at L;refine⟨⟨.add st.KZ st.qB G (ayc pre (by have:=pre.e.length_le;omega) cx.fit) (pr x (cS ..)) (ajL pre cx.pos) F K (by omega),st.qB.add G Y ab (by omega),?_,?_⟩,pre.trans (iD.add _ _ _ _),λ y D=>ayi (pr y (cz _ D)) λ e=>A.1 (e▸D)⟩;.show(s.1.E++J).length<=200;omega
    show(s.1.V++[x]).length<=most;rw[dM,zH];exact u.1
   .show(s.1.E++J).length<=220;rw[dM];have:=st.len;omega
   show(s.1.V++[x]).length<=30;rw[dM,zH];omega
  have ha:uJ most x s=some (.inl s):=by unfold uJ;rw[aj u]
  rw[ha];simp only;exact JY hm (λ y D=>Z y (cz _ D)) A.2 (λ h=>⟨(hi h).1,(hi h).2.1,λ y D=>(hi h).2.2 y (cz _ D)⟩) hb
def Wh{R:List RU}{E0:List El}(J:most<=30):∀{f:Nat} {N:aT},St R E0 most N->most<N.V.length+f->∃M ok,FP most f N=some (M,ok)/\(ok=true->St R E0 most M)/\M.E.length<=220/\M.V.length<=30
 |0,N,A,Z=>by have:=A.ml;omega
 |f+1,N,A,Z=>by
  obtain⟨fr,D⟩:=ad5 A.qB;obtain⟨K,G⟩:=W3 D;obtain⟨⟨M,ok⟩,h1,L,h3,h4⟩:=JY (N:=N) (R:=R) (E0:=E0) J (s:=(N,true)) K G (λ _=>⟨A,iD.refl N,λ y Y=>(K y Y).pre⟩) ⟨by show N.E.length<=220;have:=A.len;omega,A.qB.vl⟩;simp only[FP,D,h1];split;.rename_i u;have F:=(L u.2).1;exact Wh J F (by omega)
  exact⟨M,ok,rfl,λ h=>(L h).1,h3,h4⟩
end
section
open Go.Proofs
variable{R:List RU}{E0:List El}{N:aT}
def nA.split(h:nA R E0 N):∃m,N.E=E0++m/\∀y∈m,0<=y.ev:=by
 induction h with
 |nil=>exact⟨[],by simp,by simp⟩
 | @add N x l s J _ _ _ _ _ D _ _ A=>
  obtain⟨m,G,F⟩:=A;refine⟨m++l,?_,λ y u=>?_⟩;.show N.E++l=_;rw[G,vH]
  rcases jA.1 u with u|u
  .exact F y u
  have:=Km D y u;omega
def nA.rules(h:nA R E0 N):N.R=R:=by
 induction h with
 |nil=>rfl
 |add _ _ _ _ _ _ _ _ _ u=>exact u
def XO:∀y∈fc lN lE,y.ev= -1:=by
 intro y h;unfold fc at h;rcases jA.1 h with h|h
 .obtain⟨a,_,rfl⟩:=eK.1 h;rfl
 obtain⟨a,_,rfl⟩:=eK.1 h;rfl
def VL:(fc lN lE).length=lN.length+lE.length:=by unfold fc;simp
def St.start(A:∀r∈R,zg r)(u:lN.length+lE.length<=200)(most:Nat):St R (fc lN lE) most ⟨R,fc lN lE,[],[]⟩where
 KZ:=.nil
 qB:=⟨A,rfl,iB _,λ y h=>by rw[XO y h];show(-1:Int)<0;decide,λ y h=>(by cases h),λ y h=>(by cases h)⟩
 len:=by rw[VL];exact u
 ml:=iB _
def xg(G:St R (fc lN lE) most N)(F:k<=N.V.length):∃M m,nA R (fc lN lE) M/\M.V=N.V.take k/\M.E=N.E.filter (λ y=>decide (y.ev<(k:Int)))/\M.E=fc lN lE++m/\(∀y∈m,y.ev≠-1)/\bP (r8 M.E) M.V ⟨R,fc lN lE,[],[]⟩=some (.inl M):=by obtain⟨M,h,J,h3⟩:=G.KZ.cut XO F;obtain⟨m,A,u⟩:=h.split;exact⟨M,m,h,J,h3,A,λ y D e=>by have:=u y D;omega,h.read (rQ _)⟩
end
section
open Go.Proofs
variable{gl:aM}{base:eH}
abbrev wy(l:List Ed):ae:=.sl (l.map Ed.c) (some 3)
def ab1{l:List Ed}{x:Ed}(h:l.length<=100000):∀st,iG st 3 (wy l) (.sl [x.c] (some 3))=some (wy (l++[x])):=λ st=>by
 have e:(ae.sl (l.map Ed.c++[x.c]) (some 3))=wy (l++[x]):=by simp
 rw[<-e];exact lZ (by simp only[aF,cD,dG];omega) rfl
def Iu{x:Int}(h:l.length<=100000):∀st,iG st 1 (fk l) (.sl [[eI x]] (some 1))=some (fk (l++[x])):=λ st=>by rw[<-zZ];exact lZ (by simp only[aF,cD,dG];omega) rfl
def CP:cy af 30=true:=by kernel_rfl
def FX:cy af 31=true:=by kernel_rfl
abbrev Gy(n:Nat)(vE:List El)(i:Nat):VT:=[(2,.ptr 0 2 0),(4,.ptr 0 4 0),(7,.ptr 0 7 0),(8,eI n),(12,.sl (vE.map El.c) none),(13,eI vE.length),(14,eI i)]
abbrev FV(tn te:aS)(s:FSx):aq:=(aH [(2,[.sl tn none,.sl te none]),(4,[.sl [] (some 1),.sl [] (some 3)]),(7,[fk s.gN,wy s.gE])] [])
def Fh(tn te:aS)(vE:List El)(p:El×Nat)(s:FSx):bZ:=(.exit 0,[(2,.ptr 0 2 0),(4,.ptr 0 4 0),(7,.ptr 0 7 0),(8,eI s.n),(10,.ptr 0 10 0),(12,.sl (vE.map El.c) none),(13,eI vE.length),(14,eI p.2),(20,eB true)],(aH [(2,[.sl tn none,.sl te none]),(4,[.sl [] (some 1),.sl [] (some 3)]),(7,[fk s.gN,wy s.gE]),(10,p.1.c)] []))
def Oj(tn te:aS)(vE:List El):FSx⊕bZ->bZ
 |.inl s=>(.exit 0,Gy s.n vE vE.length++[(15,eB false)],FV tn te s)
 |.inr r=>r
def fsL{tn:aS}{r:FSx⊕bZ}(hl:vE.length<=1000)(h:bP (qF (Fh tn te vE)) vE.zipIdx ⟨[],[],0⟩=some r):
 aJ af gl (VW gl base) 72 EC (Gy 0 vE 0) (FV tn te ⟨[],[],0⟩)=some (Oj tn te vE r):=by
 have hL:=pg (P:=af) (gl:=gl) (Z7:=VW gl base) (n:=72) (l:=vE.zipIdx) (C:=EC) (B:=Ax) (f:=qF (Fh tn te vE))
  (TT:=λ i s=>Gy s.n vE i) (ST:=λ s=>FV tn te s)
  (X:=λ s=>(.exit 0,Gy s.n vE vE.length++[(15,eB false)],FV tn te s)) ?_ ?_ ?_ ⟨[],[],0⟩ r h
 .rw[hL];cases r<;>rfl
 .intro i s;rw[amN];simp+decide only[VB,lk,aB,↓reduceIte,Nat.reduceBEq,Nat.reduceAdd]
 .intro i s p hi Y;rw[rP]at hi;have A:((i:Int)<(vE.length:Int))=True:=dw (by omega);have K:vE[i]? =some vE[i]:=cW hi;have M:p=(vE[i],i):=by rw[Eu,K]at Y;simpa using Y.symm
  subst M;generalize hx:vE[i]=x at K⊢;have N:(vE.map El.c)[i]? =some x.c:=by rw[bM,K];rfl
  unfold qF;simp only;by_cases Z:1000<s.n;.rw[ao Z];trivial
  rw[aj Z];have J:=gW (P:=af) (t:=3) (show i<=4611686018427387904 by omega);have G:=gW (P:=af) (t:=3) (show s.n<=4611686018427387904 by omega);by_cases D:x.ev= -1
  .rw[ao D];by_cases u:x.ed=true
   .rw[ao u];by_cases L:s.gE.length<=1000;.rw[ao L];have F:=ab1 (x:=⟨x.ty,x.fr,x.to⟩) (l:=s.gE) (by omega);simp only[Ed.c]at F;simp+decide only[Ax,VB,lk,aB,↓reduceIte,Nat.reduceBEq,Nat.reduceAdd,Gd,MG,Mg,UF,afS,SJ,Tl,A,aY N,El.c,dw D,u,fD,fM,fO,ft,fo,eM,cm,dh,dC,dW,cM,F,J,G]
    rw[aj L];trivial
   rw[aj u];have u:x.ed=false:=by simpa using u
   by_cases L:s.gE=[]/\x.fr=0/\x.to=0/\s.gN.length<=1000;.rw[ao L];obtain⟨g1,g2,g3,g4⟩:=L;have F:=Iu (x:=x.ty) (l:=s.gN) (by omega);simp+decide only[Ax,VB,lk,aB,↓reduceIte,Nat.reduceBEq,Nat.reduceAdd,Gd,MG,Mg,UF,afM,adI,SJ,Tl,A,aY N,El.c,dw D,u,g1,g2,g3,fD,fM,fO,ft,fo,eM,cm,dh,dC,dW,cM,F,J,G]
   rw[aj L];trivial
  rw[aj D];refine⟨?_,λ h=>by cases h⟩;simp+decide only[Ax,VB,lk,aB,↓reduceIte,Nat.reduceBEq,Nat.reduceAdd,Gd,MG,Mg,A,aY N,El.c,b6 D,Fh]
 .intro s;refine⟨?_,λ h=>by cases h⟩;rw[rP];simp+decide only[Ax,VB,lk,aB,↓reduceIte,Nat.reduceBEq,Nat.reduceAdd,Gd,jT]
def w42{m:List El}{tn te:aS}(F:∀y∈m,y.ev≠-1)(K:lN.length+lE.length<=1000)(G:(fc lN lE++m).length<=1000)
 (A:∀S,VW gl base 30 [.agg [aD lN,dY lE]] S=some (eI 0,S,false)) (u:∀S,VW gl base 31 [.agg [.sl tn none,.sl te none],.agg [aD lN,dY lE]] S=some (eB true,S,false)):
 VW gl base 42 [.agg [.sl tn none,.sl te none],.agg [.sl ((fc lN lE++m).map El.c) none,yb vV]] S=some (.aL [.agg [aD lN,dY lE],eI ((lN.length+lE.length:Nat):Int),eB true],S,false):=by
 refine iU (S':=[]) (w:=false) m42 rfl rfl ?_;obtain⟨r,D,J⟩:=auT (X:=Fh tn te (fc lN lE++m)) K F;have h:=fsL (gl:=gl) (base:=base) (tn:=tn) (te:=te) G D;have h:aJ af gl (VW gl base) 72 EC [(2,.ptr 0 2 0),(4,.ptr 0 4 0),(7,.ptr 0 7 0),(8,eI 0),(12,.sl ((fc lN lE++m).map El.c) none),(13,eI (fc lN lE++m).length),(14,eI 0)] (aH [(2,[.sl tn none,.sl te none]),(4,[.sl [] (some 1),.sl [] (some 3)]),(7,[.sl [] (some 1),.sl [] (some 3)])] [])=_:=h;rcases J with rfl|⟨p,rfl⟩
 .simp only[Oj,Gy,FV,zC,jS]at h;simp+decide only[bz,PO,VB,lk,aB,↓reduceIte,Nat.reduceBEq,Nat.reduceAdd,Pc,Rw,UN,Rr,SU,aF,h,aI CP,aI FX,A,u];rfl
 .simp only[Oj,Fh]at h;simp+decide only[bz,PO,VB,lk,aB,↓reduceIte,Nat.reduceBEq,Nat.reduceAdd,Pc,Rw,UN,Rr,SU,aF,h,aI CP,aI FX,A,u];rfl
end
section
open Go.Proofs
variable{N:aT}
variable{gl:aM}{base:eH}
def Al(base:eH):Prop:=bset 68=true/\∀a:List Int,a.length<=1000->base 68 [aD a]=some (fk a)
def cBt(st:aq)(src:List Tmp):Option (List ae)->Option VR
 |some cs=>some ⟨.agg cs,src,st,.pure⟩
 |none=>none
def uu{src:List Tmp}{cs:List ae}:cBt st src (some cs)=some ⟨.agg cs,src,st,.pure⟩:=rfl
def uC{Z7:cI}{T:VT}{d:Option Tmp}{z:List ae}{h:List (Nat×Nat)}{ps:List (Nat×bu)}:aN P gl Z7 T st d (.bt z h ps)=oB (lK gl T ps) λ l=>cBt st (wY ps) (kY h z l):=by
 simp only[aN];cases lK gl T ps;.rfl
 rename_i l;simp only[oB];cases kY h z l<;>rfl
def uR:wY []=[]:=rfl
def uy{x:bu}{l:List (Nat×bu)}:wY ((i,x)::l)=aB x++wY l:=rfl
def CB:cy af 68=true:=by kernel_rfl
def Si:cy af 33=true:=by kernel_rfl
def q34:cy af 34=true:=by kernel_rfl
def aaN{x:Oc}{A:Oc->List Oc->Option (List Oc)}(D:∀y s r,A y s=some r->s<+:r){p:El×Nat}(h:ph lN lE x A p s=some (.inl s')):s<+:s':=by
 unfold ph at h;split at h
 .split at h
  .split at h
   .split at h;.cases h;exact rQ _
    split at h;.rename_i r u;cases h;exact D _ _ _ u
    cases h
   cases h;exact rQ _
  cases h
 split at h
 .split at h
  .split at h;.cases h;exact rQ _
   split at h;.rename_i r u;cases h;exact D _ _ _ u
   cases h
  .cases h;exact rQ _
  cases h
 cases h
def Qz{f:α->List β->Option (List β⊕bZ)}:∀{l:List α} {s r:List β},(∀x s s',f x s=some (.inl s')->s<+:s')->bP f l s=some (.inl r)->s<+:r
 |[],s,r,_,h=>by cases h;exact rQ _
 |x::l,s,r,u,h=>by
  simp only[bP]at h;split at h;.rename_i D A;exact(u _ _ _ A).trans (Qz u h)
  .cases h
  cases h
def Ai:∀{f:Nat} {x:Oc} {s r:List Oc},mt N lN lE count f x s=some r->s<+:r:=by
 intro f;induction f with
 |zero=>intro x s r h;cases h
 |succ f u=>
  intro x s r h;simp only[mt]at h;split at h
  .split at h
   .rename_i z G;cases h;cases z;.exact rQ _
    exact Ii _ _
   cases h
  split at h;.rename_i F D;cases h;exact Qz (λ p s s' A=>aaN (λ _ _ _=>u) A) D
  cases h
open Classical in
noncomputable def uU{α β:Type}(f:α->List β->Option (List β⊕bZ))(s0:List β)(B:Nat)(x:α)(s:List β):Option (List β⊕bZ):=if s0<+:s/\(∀s',f x s=some (.inl s')->s'.length<=B)then f x s else none
def NL{f:α->List β->Option (List β⊕bZ)}{s0:List β}:∀{l:List α} {s r:List β},(∀x s s',f x s=some (.inl s')->s<+:s')->s0<+:s->r.length<=B->bP f l s=some (.inl r)->bP (uU f s0 B) l s=some (.inl r)
 |[],s,r,_,_,_,h=>h
 |x::l,s,r,A,h0,F,h=>by
  simp only[bP]at h⊢;split at h
  .rename_i G D;have e:uU f s0 B x s=f x s:=ao ⟨h0,λ s' u=>by rw[D]at u;cases u;exact fX (Qz A h).length_le F⟩
   rw[e,D];exact NL A (h0.trans (A _ _ _ D)) F h
  .cases h
  cases h
def jb(S:List bI)(p q:Nat)(s0 s:List Oc):List bI:=if s0.length<s.length then jv S p q [qy s]else S
def N4(h:s0<+:s)(u:¬s0.length<s.length):s=s0:=(h.eq_of_length (by have:=h.length_le;omega)).symm
def anJ:(jb S p q s0 s).length=S.length:=by
 unfold jb;split;.exact wi _ _ _ _
 rfl
def arB(h:s0<+:s)(u:b7 S p q=some [qy s0]):b7 (jb S p q s0 s) p q=some [qy s]:=by
 unfold jb;split;.rw[BZ,ao ⟨rfl,rfl⟩,u];rfl
 rename_i A;rw[N4 h A];exact u
def ac0{c:List ae}(h:¬(d=p/\k=q))(u:b7 S d k=some c):b7 (jb S p q s0 s) d k=some c:=by
 unfold jb;split;.rw[BZ,aj h];exact u
 exact u
def aty(h:s0<+:s)(A:s<+:s'):jb (jb S p q s0 s) p q s s'=jb S p q s0 s':=by
 have F:=h.length_le;have D:=A.length_le;unfold jb;by_cases u:s.length<s'.length
 .rw[ao u,ao (show s0.length<s'.length by omega)];split;.exact LC
  rfl
 rw[aj u];have:=N4 A u;rw[this]
def alL{F:bI}(h:p≠S.length):jb (F::S) p q s0 s=F::jb S p q s0 s:=by
 unfold jb;split;.simp only[jv,aj h]
 rfl
def ah3(h:s0<+:s)(u:s<+:s'):(decide (s0.length<s.length)||decide (s.length<s'.length))=decide (s0.length<s'.length):=by have D:=h.length_le;have A:=u.length_le;rw[<-Bool.decide_or];exact decide_eq_decide.2 (by omega)
def ao9:jb S p q s s=S:=aj (by omega)
abbrev Gq(p q p2 q2:Nat):ae:=.fn 34 [.ptr p q 0,.ptr p2 q2 0]
structure sy (N:aT) (S:List bI) (d k p q p2 q2:Nat) (s:List Oc):Prop where
 vD:b7 S d k=some (N.c (some 5) (some 3) (some 1))
 np:b7 S p q=some [.ptr d k 0]
 fr:b7 S p2 q2=some [qy s]
def sy.ne(h:sy N S d k p q p2 q2 s):¬(d=p2/\k=q2)/\¬(p=p2/\q=q2):=by
 refine⟨?_,?_⟩
 .rintro⟨rfl,rfl⟩
  have:=h.vD.symm.trans h.fr;simp[aT.c]at this
 rintro⟨rfl,rfl⟩
 have:=h.np.symm.trans h.fr;simp at this
def sy.up(h:sy N S d k p q p2 q2 s)(F:bI):sy N (F::S) d k p q p2 q2 s:=⟨dm h.vD,dm h.np,dm h.fr⟩
def sy.jb(h:sy N S d k p q p2 q2 s)(u:s<+:s'):sy N (jb S p2 q2 s s') d k p q p2 q2 s':=⟨ac0 h.ne.1 h.vD,ac0 h.ne.2 h.np,arB u h.fr⟩
abbrev AF(S:List bI)(d k p q p2 q2:Nat)(N:aT)(count:Nat)(x:Oc)(i:Nat):VT:=[(0,.ptr d k 0),(2,eI count),(4,Gq p q p2 q2),(6,.ptr S.length 6 0),(8,.ptr S.length 8 0),(10,eI x.no.length),(11,eI x.ed.length),(42,.sl ((N.E.map El.c).take count) none),(43,eI count),(44,eI i)]
abbrev GG(S:List bI)(p2 q2:Nat)(lN:List Int)(lE:List Ed)(x:Oc)(s0 s:List Oc):aq:={w:=decide (s0.length<s.length),cur:=[(6,[aD lN,dY lE]),(8,x.c)],up:=jb S p2 q2 s0 s}
def mtL(hC:Al base){N:aT}{S:List bI}{d k p q p2 q2:Nat}{s0:List Oc}(hh:sy N S d k p q p2 q2 s0){count:Nat}(hc:count<=N.E.length)(hE:N.E.length<=1000){lN:List Int}{lE:List Ed}(av:lN.length<=1000)(aw:lE.length<=1000){x:Oc}(an:x.no.length<=lN.length)(ap:x.ed.length<=lE.length){f:Nat}
 (ih:∀{x:Oc} {s s':List Oc} {U:List bI},sy N U d k p q p2 q2 s->x.no.length<=lN.length->x.ed.length<=lE.length->s'.length<=1000000000->mt N lN lE count f x s=some s'->VW gl base 33 [.ptr d k 0,.agg [aD lN,dY lE],eI count,.agg x.c,Gq p q p2 q2] U=some (.aL [],jb U p2 q2 s s',decide (s.length<s'.length)))
 {r:List Oc} (h:bP (uU (ph lN lE x (mt N lN lE count f)) s0 1000000000) (N.E.take count).zipIdx s0=some (.inl r)):
 aJ af gl (VW gl base) 113 GP (AF S d k p q p2 q2 N count x 0) (GG S p2 q2 lN lE x s0 s0)=some (.exit 0,AF S d k p q p2 q2 N count x count++[(45,eB false)],GG S p2 q2 lN lE x s0 r):=by
 have ag:(N.E.take count).zipIdx.length=count:=by rw[rP,n8];omega
 have hL:=pg (P:=af) (gl:=gl) (Z7:=VW gl base) (n:=113) (l:=(N.E.take count).zipIdx) (C:=GP) (B:=uQ) (f:=uU (ph lN lE x (mt N lN lE count f)) s0 1000000000)
  (TT:=λ i _=>AF S d k p q p2 q2 N count x i) (ST:=λ s=>GG S p2 q2 lN lE x s0 s)
  (X:=λ s=>(.exit 0,AF S d k p q p2 q2 N count x count++[(45,eB false)],GG S p2 q2 lN lE x s0 s)) ?_ ?_ ?_ s0 _ h
 .exact hL
 .intro i s;rw[ari];simp+decide only[VB,lk,aB,↓reduceIte,Nat.reduceBEq,Nat.reduceAdd,AF]
 .intro i s pe hi hp;rw[ag]at hi;have au:i<N.E.length:=by omega
  obtain⟨y,hy⟩:∃y,N.E[i]? =some y:=⟨_,cW au⟩;have am:(N.E.take count)[i]? =some y:=by rw[qw,ao hi];exact hy
  have ar:pe=(y,i):=by rw[Eu,am]at hp;simpa using hp.symm
  subst ar;have he:((N.E.map El.c).take count)[i]? =some y.c:=by rw[qw,ao hi,bM,hy];rfl
  have u:((i:Int)<(count:Int))=True:=dw (by omega);by_cases hg:s0<+:s/\(∀s',ph lN lE x (mt N lN lE count f) (y,i) s=some (.inl s')->s'.length<=1000000000)
  case neg=>rw[uU,aj hg];trivial
  rw[uU,ao hg];have hU:=hh.jb hg.1;have L:(jb S p2 q2 s0 s).length=S.length:=anJ;have gd:(d=S.length)=False:=b6 (by have:=cY hh.vD;omega);have al:p2≠S.length:=by have:=cY hh.fr;omega
  have M:=gW (P:=af) (t:=3) (show i<=4611686018427387904 by omega);have D:∀S,VW gl base 68 [aD x.no] S=some (fk x.no,S,false):=λ S=>wU hC.1 (hC.2 _ (by omega)) rfl
  have A:∀S,VW gl base 68 [aD x.ed] S=some (fk x.ed,S,false):=λ S=>wU hC.1 (hC.2 _ (by omega)) rfl
  have ab:(d==S.length)=false:=by have:=cY hh.vD;simp;omega
  have Z:(p==S.length)=false:=by have:=cY hh.np;simp;omega
  have G:(p2==S.length)=false:=by simp;exact al
  have step:∀{x':Oc} {s':List Oc},x'.no.length<=lN.length->x'.ed.length<=lE.length->s'.length<=1000000000->mt N lN lE count f x' s=some s'->∀F,VW gl base 33 [.ptr d k 0,.agg [aD lN,dY lE],eI count,.agg x'.c,Gq p q p2 q2] (F::jb S p2 q2 s0 s)=some (.aL [],F::jb S p2 q2 s0 s',decide (s.length<s'.length)):=by intro x' s' a1 a2 a3 a4 F;rw[ih (hU.up F) a1 a2 a3 a4,alL (by rw[L];exact al),aty hg.1 (Ai a4)]
  unfold ph;simp only;by_cases hl:x.no.length<lN.length
  .rw[ao hl];have J:((x.no.length:Int)<(lN.length:Int))=True:=dw (by omega);obtain⟨kind,hk⟩:∃kind,lN[x.no.length]? =some kind:=⟨_,cW hl⟩;rw[hk];have K:(lN.map λ n=>[eI n])[x.no.length]? =some [eI kind]:=by rw[bM,hk];rfl
   have ae:=λ S=>w69 (gl:=gl) (base:=base) (y:=y) (kind:=kind) (S:=S)
   have ac:∀S,VW gl base 70 [aD x.no,eI i] S=some (eB (fW x.no i),S,false):=λ S=>uZ (by omega)
   simp only[El.c]at ae;cases Y:w9 y kind;.simp only[Y,rI,qv];simp+decide only[uQ,VB,lk,aB,↓reduceIte,Nat.reduceBEq,Nat.reduceAdd,yM,Ak,Bv,Ah,Bw,u,aY he,El.c,Oc.c,L,gd,ab,Z,G,aI CB,D,A,uC,uu,uR,uy,ft,fo,eM,cm,dh,dC,dW,cM,aF,M,L2,J,aY K,aI Dm,ae,Y];rfl
   cases hi:fW x.no i
   .simp only[Y,hi,jz,rI,qv];cases hm:mt N lN lE count f ⟨x.ru,x.no++[(i:Int)],x.ed⟩ s;.trivial
    rename_i s';simp only;have ai:s'.length<=1000000000:=hg.2 s' (by simp only[ph,ao hl,hk,Y,hi,jz,rI,qv,hm]);have hr:=step (x':=⟨x.ru,x.no++[(i:Int)],x.ed⟩) (by simp;omega) ap ai hm;have ak:=Iu (x:=(i:Int)) (l:=x.no) (by omega);have hw:=ah3 hg.1 (Ai hm);simp only[Oc.c]at hr;simp+decide only[uQ,VB,lk,aB,↓reduceIte,Nat.reduceBEq,Nat.reduceAdd,yM,Ak,Bv,Ah,Bw,u,aY he,El.c,Oc.c,L,gd,ab,Z,G,aI CB,D,A,uC,uu,uR,uy,ft,fo,eM,cm,dh,dC,dW,cM,aF,M,L2,aez,Rb,J,aY K,aI Dm,ae,Y,aI mU,ac,hi,fD,ak,aI Si,hr,hw];rfl
   simp only[Y,hi,jz];simp+decide only[uQ,VB,lk,aB,↓reduceIte,Nat.reduceBEq,Nat.reduceAdd,yM,Ak,Bv,Ah,Bw,u,aY he,El.c,Oc.c,L,gd,ab,Z,G,aI CB,D,A,uC,uu,uR,uy,ft,fo,eM,cm,dh,dC,dW,cM,aF,M,L2,J,aY K,aI Dm,ae,Y,aI mU,ac,hi];rfl
  rw[aj hl];have J:((x.no.length:Int)<(lN.length:Int))=False:=b6 (by omega);cases hk:lE[x.ed.length]?;.trivial
  rename_i e;simp only;have K:(lE.map Ed.c)[x.ed.length]? =some e.c:=by rw[bM,hk];rfl
  have ac:∀S,VW gl base 70 [aD x.ed,eI i] S=some (eB (fW x.ed i),S,false):=λ S=>uZ (by omega)
  cases Y:wb y e x.no;.trivial
  rename_i bf;have ad:=λ S=>Vb (gl:=gl) (base:=base) (S:=S) Y
  simp only[El.c,Ed.c]at ad;cases bf;.simp only[Y];simp+decide only[uQ,VB,lk,aB,↓reduceIte,Nat.reduceBEq,Nat.reduceAdd,yM,Ak,Bv,Ah,Bw,u,aY he,El.c,Oc.c,L,gd,ab,Z,G,aI CB,D,A,uC,uu,uR,uy,ft,fo,eM,cm,dh,dC,dW,cM,aF,M,L1,J,aY K,Ed.c,aI Dl,ad];rfl
  cases hi:fW x.ed i
  .simp only[Y,hi,rI,qv];cases hm:mt N lN lE count f ⟨x.ru,x.no,x.ed++[(i:Int)]⟩ s;.trivial
   rename_i s';simp only;have ai:s'.length<=1000000000:=hg.2 s' (by simp only[ph,aj hl,hk,Y,hi,rI,qv,hm]);have ax:x.ed.length<lE.length:=by rw[mR]at hk;exact hk.1
   have hr:=step (x':=⟨x.ru,x.no,x.ed++[(i:Int)]⟩) an (by simp;omega) ai hm;have ak:=Iu (x:=(i:Int)) (l:=x.ed) (by omega);have hw:=ah3 hg.1 (Ai hm);simp only[Oc.c]at hr;simp+decide only[uQ,VB,lk,aB,↓reduceIte,Nat.reduceBEq,Nat.reduceAdd,yM,Ak,Bv,Ah,Bw,u,aY he,El.c,Oc.c,L,gd,ab,Z,G,aI CB,D,A,uC,uu,uR,uy,ft,fo,eM,cm,dh,dC,dW,cM,aF,M,L1,ac1,Rb,J,aY K,Ed.c,aI Dl,ad,aI mU,ac,hi,fD,ak,aI Si,hr,hw];rfl
  simp only[Y,hi,jz];simp+decide only[uQ,VB,lk,aB,↓reduceIte,Nat.reduceBEq,Nat.reduceAdd,yM,Ak,Bv,Ah,Bw,u,aY he,El.c,Oc.c,L,gd,ab,Z,G,aI CB,D,A,uC,uu,uR,uy,ft,fo,eM,cm,dh,dC,dW,cM,aF,M,L1,J,aY K,Ed.c,aI Dl,ad,aI mU,ac,hi];rfl
 .intro s;refine⟨?_,λ h=>by cases h⟩;rw[ag];simp+decide only[uQ,VB,lk,aB,↓reduceIte,Nat.reduceBEq,Nat.reduceAdd,yM,jT,AF]
def Mo{l:List El}:fR 5 (l.map El.c)=true:=by
 induction l with
 |nil=>rfl
 |cons a l h=>exact h
def w33(hB:kK base)(hT:nD gl base)(hC:Al base)(hb:NB N)(hV:N.V.length<=1000000)(hc:count<=N.E.length)(hE:N.E.length<=1000)(ai:lN.length<=1000)(ak:lE.length<=1000):
 ∀{f:Nat} {x:Oc} {s s':List Oc} {U:List bI},sy N U d k p q p2 q2 s->x.no.length<=lN.length->x.ed.length<=lE.length->s'.length<=1000000000->mt N lN lE count f x s=some s'->VW gl base 33 [.ptr d k 0,.agg [aD lN,dY lE],eI count,.agg x.c,Gq p q p2 q2] U=some (.aL [],jb U p2 q2 s s',decide (s.length<s'.length)):=by
 intro f;induction f with
 |zero=>intro x s s' U _ _ _ _ h;cases h
 |succ f ih=>
  intro x s s' U D ac ad ag h;have L:=Ai h;have gd:(d=U.length)=False:=b6 (by have:=cY D.vD;omega);have J:(d==U.length)=false:=by have:=cY D.vD;simp;omega
  have G:(p==U.length)=false:=by have:=cY D.np;simp;omega
  have ab:p2≠U.length:=by have:=cY D.fr;omega
  have u:(p2==U.length)=false:=by simp;exact ab
  simp only[mt]at h;refine jG m33 rfl rfl ?_;by_cases M:x.no.length=lN.length/\x.ed.length=lE.length
  .rw[ao M]at h;have e1:((x.no.length:Int)=(lN.length:Int))=True:=dw (by omega);have e2:((x.ed.length:Int)=(lE.length:Int))=True:=dw (by omega);split at h
   .rename_i z hz;cases h
    have Z:∀F,VW gl base 34 [.agg x.c,.ptr p q 0,.ptr p2 q2 0] (F::U)=some (.aL [],F::jb U p2 q2 s (if z then s++[x]else s),decide (s.length<(if z then s++[x]else s).length)):=by
     intro F;have hu:=D.up F;rw[w34 hB hT hb hu.vD hV hu.np hu.fr (by have:=L.length_le;omega) (by omega) (by omega) hz];cases z;.simp[jb]
     have hl:s.length<(s++[x]).length:=by simp
     simp only[jz,jb,ao hl,dV hl];simp only[jv,aj ab]
    simp only[Oc.c]at Z;simp+decide only[bz,I8,VB,lk,aB,↓reduceIte,Nat.reduceBEq,Nat.reduceAdd,Mk,Mq,LR,Zn,Oc.c,gd,J,G,u,aF,e1,e2,aI q34,Z];rfl
   cases h
  rw[aj M]at h;split at h
  .rename_i r hr;cases h;have Y:=mtL hC D hc hE ai ak ac ad (f:=f) (λ a b c d e=>ih a b c d e) (NL (λ _ _ _ he=>aaN (λ _ _ _=>Ai) he) (rQ _) ag hr);have K:nf (some 5) false (.sl (N.E.map El.c) none) none (some (.sc (.int .i64 (count:Int))))=some (.sl ((N.E.map El.c).take count) none):=EU (by rw[aF];exact hc) Mo;have A:((N.E.map El.c).take count).length=count:=by rw[n8,aF];omega
   have ae:decide (s.length<s.length)=false:=by simp
   simp only[AF,GG,ao9,ae,Oc.c]at Y;have Y:aJ af gl (VW gl base) 113 GP [(0,.ptr d k 0),(2,eI count),(4,Gq p q p2 q2),(6,.ptr U.length 6 0),(8,.ptr U.length 8 0),(10,eI x.no.length),(11,eI x.ed.length),(42,.sl ((N.E.map El.c).take count) none),(43,eI count),(44,eI 0)] _=_:=Y;by_cases h1:x.no.length=lN.length;.have e1:((x.no.length:Int)=(lN.length:Int))=True:=dw (by omega);have e2:((x.ed.length:Int)=(lE.length:Int))=False:=b6 (by omega);simp+decide only[bz,I8,VB,lk,aB,↓reduceIte,Nat.reduceBEq,Nat.reduceAdd,Mk,Mq,LR,Qd,Oc.c,gd,J,G,u,aF,e1,e2,D.vD,aT.c,K,A,Y];rfl
   have e1:((x.no.length:Int)=(lN.length:Int))=False:=b6 (by omega);simp+decide only[bz,I8,VB,lk,aB,↓reduceIte,Nat.reduceBEq,Nat.reduceAdd,Mk,Mq,LR,Qd,Oc.c,gd,J,G,u,aF,e1,D.vD,aT.c,K,A,Y];rfl
  cases h
end
section
open Go.Proofs
variable{l:List Bool}
variable{gl:aM}
def fF:Nat->List Bool->List Int->List Int
 |_,[],o=>o
 |i,b::l,o=>fF (i+1) l (if b then o++[(i:Int)]else o)
theorem WB:∀{l:List Bool} {i:Nat} {o:List Int},(fF i l o).length<=o.length+l.length
 |[],i,o=>be _
 |k::l,i,o=>by
  simp only[fF];refine fX WB ?_;split;.simp only[dM,cD,dG];omega
  simp only[cD];omega
def aeH:∀{l:List Bool} {i:Nat} {o:List Int} {x:Int},x∈fF i l o->x∈o\/((i:Int)<=x/\x<i+l.length)
 |[],i,o,x,h=>.inl h
 |k::l,i,o,x,h=>by
  simp only[fF]at h;rcases aeH h with h|⟨A,u⟩
  .split at h
   .rcases jA.1 h with h|h
    .exact .inl h
    rw[dp]at h;right;simp only[cD];omega
   exact .inl h
  right;simp only[cD];omega
def GJ(l:List Bool)(i:Nat)(o:List Int):Option (List Int⊕bZ):=if o.length<=i then(match l[i]?with|some b=>some (.inl (if b then o++[(i:Int)]else o))|none=>none)else none
def aoO:∀k i o,i+k=l.length->o.length<=i->sJ (GJ l) k i o=some (.inl (fF i (l.drop i) o)):=by
 intro k;induction k with
 |zero=>
  intro i o hi _;rw[Nw (by omega)];rfl
 |succ k u=>
  intro i o hi A;have h:i<l.length:=by omega
  rw[rL h];simp only[sJ,GJ,ao A,cW h,fF];refine u (i+1) _ (by omega) ?_;split;.simp only[dM,cD,dG];omega
  omega
abbrev J1(l:List Bool):ae:=.sl (l.map λ b=>[eB b]) none
def UJ{Z7:cI}(M:l.length<=1000):
 bz af gl Z7 ZL [J1 l] S=some (aD (fF 0 l []),S,false):=by
 have L:=tP (P:=af) (gl:=gl) (Z7:=Z7) (n:=20) (len:=l.length) (C:=MQ) (B:=DJ) (f:=GJ l)
  (TT:=λ i o=>[(0,J1 l),(3,fk o),(4,eI i)]) (ST:=λ _=>(aH [] S))
  (X:=λ o=>(.exit 0,[(0,J1 l),(3,fk o),(4,eI l.length),(8,eB false)],(aH [] S))) ?_ ?_ ?_ l.length 0 [] (.inl (fF 0 l [])) (by omega) (aoO l.length 0 [] (by omega) (be _))
 .have F:aJ af gl Z7 20 MQ [(0,J1 l),(3,.sl [] (some 1)),(4,eI 0)] (aH [] S)=_:=L;simp+decide only[bz,ZL,VB,lk,aB,↓reduceIte,Nat.reduceBEq,Nat.reduceAdd,aae,abt,Yc,YR,aF,F]
 .intro i s;rw[awi];simp+decide only[VB,lk,aB,↓reduceIte,Nat.reduceBEq,Nat.reduceAdd]
 .intro i s hi;have u:((i:Int)<(l.length:Int))=True:=dw (by omega);have G:l[i]? =some l[i]:=cW hi;have A:(l.map λ n=>[eB n])[i]? =some [eB l[i]]:=by rw[bM,G];rfl
  by_cases J:s.length<=i
  .simp only[GJ,ao J,G];have D:∀st,iG st 1 (fk s) (.sl [[eI i]] (some 1))=some (fk (s++[(i:Int)])):=λ st=>by rw[<-zZ];exact lZ (by simp only[aF,cD,dG];omega) rfl
   cases K:l[i];.rw[K]at A;simp+decide only[DJ,VB,lk,aB,↓reduceIte,Nat.reduceBEq,Nat.reduceAdd,Lv,P9,N6,O5,u,aY A,gW (show i<=4611686018427387904 by omega),aF]
   rw[K]at A;simp+decide only[DJ,VB,lk,aB,↓reduceIte,Nat.reduceBEq,Nat.reduceAdd,Lv,P9,N6,O5,u,aY A,gW (show i<=4611686018427387904 by omega),aF,fD,D]
  simp only[GJ,aj J]
 .intro s;refine⟨?_,λ h=>by cases h⟩;simp+decide only[DJ,VB,lk,aB,↓reduceIte,Nat.reduceBEq,Nat.reduceAdd,Lv,jT,aF]
end
section
open Go.Proofs
variable{s:aa}
variable{ng:Nat}{Z7:aW}
def eU(l:List Bool):List aa:=l.map aa.bool
def Bf(l:List Bool):(eU l).length=l.length:=by simp[eU]
def am9(l:List Bool):(eU l).all aa.eh=true:=ij.2 λ a h=>by obtain⟨b,_,rfl⟩:=eK.1 h;rfl
def tN:Tryz.prog.info? 4=some Tryz.t4:=by kernel_rfl
def aa7{c:aa}(h:bq g v off 1=some [c]):de af g 4 (.ptr v off)=some c:=by simp only[de,Tryz.underlying4,tN,h];rfl
def aoV{H:ah}{k:Int}:jM af (alloc H [.int .i64 k] true 1) [51,51] [s,.slice H.next 0 1 none]=gm (alloc H [.int .i64 k] true 1) 1 8 s 1 [.int .i64 k]:=by refine KE (x:=.slice H.next 0 1 none) rfl ?_;have h:=(ic H [.int .i64 k] true 1).row;simp+decide only[eR,bq,h];rfl
def aw4{H:ah}(g:Good H){s:aa}{bs:List Bool}(hs:jd H.objs.get 1 bs.length s (eU bs))(hb:bs.length<=1000):
 ∃r,fI af ng Z7 49 [s] H r/\∃fm,cj r.2 1 (fF 0 bs []).length r.1 (cT (fF 0 bs [])) fm/\kM H fm/\Fr none H r.2/\Good r.2:=by
 refine qn Tryz.func49 rfl ?_;show W af ng Z7 20 _ _ _ _;have a0:aw (fH [s] 0 .nil) 0=s:=rfl;refine aO (bW (H':=H) (λ T=>True) ?_ ?_)
 ·(repeat ((first|apply bA (br rfl)|apply bO rfl rfl rfl);simp+decide only[AB,a0];rfl))
  exact bF trivial
 intro T1 _ k1;have b0:=(k1 0 rfl).trans a0;refine aO (bW (H':=H) (λ T=>aw T 3=.ai) ?_ ?_)
 ·(repeat ((first|apply bA (br rfl)|apply bO rfl rfl rfl);simp+decide only[AB,b0];rfl))
  exact bF (by simp+decide only[AB])
 intro T2 t3 k2;have c0:=(k2 0 rfl).trans b0;refine aO (aO (bW (H':=H) (λ T=>aw T 4=.int .i64 (Int.ofNat 0)) ?_ ?_))
 ·(repeat ((first|apply bA (br rfl)|apply bO rfl rfl rfl);simp+decide only[AB,c0];rfl))
  exact bF (by simp+decide only[AB];rfl)
 intro T3 t4 k3;have d0:=(k3 0 rfl).trans c0;have d3:=(k3 3 rfl).trans t3;refine ku (tj (λ m T K=>∃(i:Nat) (o:List Int) (x:aa) (fm:Option Nat),m+i=bs.length/\fF i (bs.drop i) o=fF 0 bs []/\o.length<=i/\cj K 1 o.length x (cT o) fm/\kM H fm/\Fr none H K/\Good K/\aw T 0=s/\aw T 3=x/\aw T 4=.int .i64 (Int.ofNat i)) ?_ bs.length _ _ ⟨0,[],.ai,none,by omega,rfl,be _,⟨by simp[cT],.inl ⟨rfl,rfl,rfl⟩⟩,λ f e=>(by cases e),Fr.refl _ _,g,d0,d3,t4⟩)
 rintro m T K ⟨i,o,x,fm,hm,h,ak,ho,F,A,Z,u0,u3,u4⟩
 have Y:=hs.keep A;refine aO (aO (bW (H':=K) (λ T=>aw T 8=.bool (decide (Int.ofNat i<Int.ofNat bs.length))) ?_ ?_))
 ·(repeat ((first|apply bA (br rfl)|apply bO rfl rfl rfl);simp+decide only[AB,u0,u4,Y.dD Tryz.underlying99];rfl))
  exact bF (by simp+decide only[AB])
 intro T4 t8 k4;have v0:=(k4 0 rfl).trans u0;have v3:=(k4 3 rfl).trans u3;have v4:=(k4 4 rfl).trans u4;refine jZ (by rw[mc,t8]) (λ u=>?_) (λ L=>?_)
 .have u:i<bs.length:=by have:=jk u;simpa using this
  have hx:bs[i]? =some bs[i]:=cW u;have M:bs.drop i=bs[i]::bs.drop (i+1):=rL u;rw[M]at h;simp only[fF]at h;obtain⟨v,off,ac,_,D⟩:=Y.index u Tryz.underlying99 tN rfl;have D:=D 0 (.bool bs[i]) (by omega) (by simp[eU,hx]);rw[nY]at D;have ld:=aa7 D;refine kH (aO (ku (aO (bW (H':=K) (λ T=>aw T 14=.bool bs[i]) ?_ ?_))))
  ·(repeat ((first|apply bA (br rfl)|apply bO rfl rfl rfl);simp+decide only[AB,v0,v4,ac,ld];rfl))
   exact bF (by simp+decide only[AB])
  intro T5 ab k5;have w0:=(k5 0 rfl).trans v0;have w3:=(k5 3 rfl).trans v3;have w4:=(k5 4 rfl).trans v4;have G:∀{t:TypeId},cV af .add t (.int .i64 (Int.ofNat i)) (.int .i64 1)=some (.int .i64 (Int.ofNat (i+1))):=wu (by omega);refine jZ (by rw[mc,ab]) (λ ad=>?_) (λ ae=>?_)
  .rw[ao ad]at h;have g1:=gD Z [.int .i64 (Int.ofNat i)] true 1;have f1:=gH Z [.int .i64 (Int.ofNat i)] true 1;obtain⟨s2,K2,ag,q1,q2,q3,q4,q5⟩:=Cs (k:=1) (bytes:=8) (new:=[.int .i64 (Int.ofNat i)]) g1 (by decide) (ho.B7 f1) rfl rfl (by unfold eJ;omega) (by unfold eJ;omega);have J:=aoV (H:=K) (s:=x) (k:=Int.ofNat i);rw[q1]at J;refine bW (H':=K2) (λ T=>aw T 3=s2) ?_ ?_
   ·(repeat ((first|apply bA (br rfl)|apply bO rfl rfl rfl);simp+decide only[AB,w3,w4,Wb,J];rfl))
    exact bF (by simp+decide only[AB])
   intro T6 t3 k6;have x4:=(k6 4 rfl).trans w4;refine bW (H':=K2) (λ T=>aw T 4=.int .i64 (Int.ofNat (i+1))) ?_ ?_
   ·(repeat ((first|apply bA (br rfl)|apply bO rfl rfl rfl);simp+decide only[AB,x4,G];rfl))
    exact bF (by simp+decide only[AB])
   intro T7 t4 N;refine⟨m- 1,by omega,i+1,o++[(i:Int)],s2,ag,by omega,h,by simp;omega,?_,?_,(A.trans f1).jE g q3 F,q4,(N 0 rfl).trans ((k6 0 rfl).trans w0),(N 3 rfl).trans t3,t4⟩;.rw[show(o++[(i:Int)]).length=o.length+1 by simp,UQ];exact q2
   rcases q5 with rfl|⟨f,h1,rfl⟩
   .exact F
   intro f' e;cases e;have:=A.next;have h2:(alloc K [.int .i64 (Int.ofNat i)] true 1).next=K.next+1:=rfl
   omega
  rw[aj (by simp[ae])]at h;refine kH (bW (H':=K) (λ T=>aw T 4=.int .i64 (Int.ofNat (i+1))) ?_ ?_)
  ·(repeat ((first|apply bA (br rfl)|apply bO rfl rfl rfl);simp+decide only[AB,w4,G];rfl))
   exact bF (by simp+decide only[AB])
  intro T7 t4 N;exact⟨m- 1,by omega,i+1,o,x,fm,by omega,h,by omega,ho,F,A,Z,(N 0 rfl).trans w0,(N 3 rfl).trans w3,t4⟩
 .have L:i=bs.length:=by have:=xt L;simp at this;omega
  subst L;rw[List.drop_length]at h;have h:o=fF 0 bs []:=h;subst h;refine tX ?_;show W af ng Z7 20 _ _ _ _;refine aO (bW (H':=K) (λ T=>aw T 2=x) ?_ ?_)
  ·(repeat ((first|apply bA (br rfl)|apply bO rfl rfl rfl);simp+decide only[AB,v3];rfl))
   exact bF (by simp+decide only[AB])
  intro T8 t2 _;exact oR ⟨by simp,[_],rfl,fm,by simp only[jJ,t2];exact ho,F,A,Z⟩
end
section
open Go.Proofs
variable{a b s:aa}
variable{ng:Nat}{Z7:aW}
def YQ(Z7:aW):Prop:=∀(H:ah) (s:aa) (bs:List Bool),Good H->jd H.objs.get 1 bs.length s (eU bs)->bs.length<=1000->∃r,Z7 49 [s] H=some r/\∃fm,cj r.2 1 (fF 0 bs []).length r.1 (cT (fF 0 bs [])) fm/\kM H fm/\Fr none H r.2/\Good r.2
def apN{l:List aa}{H:ah}:ir af Z7 49 l H=Z7 49 l H:=by simp only[ir,Tryz.func49];rfl
def ZE:Tryz.prog.info? 61=some Tryz.t61:=by kernel_rfl
def QN:Tryz.prog.info? 52=some Tryz.t52:=by kernel_rfl
def ap9:Tryz.prog.info? 97=some Tryz.t97:=by kernel_rfl
def ZT:gv af 54 (.ptr v o) 1=some (.ptr v (o+1)):=by have h:Nat.beq Tryz.t52.size 0=false:=rfl;simp only[gv,Tryz.underlying54,DY,QN,h];rfl
def auZ:gv af 97 (.ptr v o) 1=some (.ptr v (o+1)):=by have h:Nat.beq Tryz.t3.size 0=false:=rfl;simp only[gv,Tryz.underlying97,rB,h];rfl
def akk:gv af 97 (.ptr v o) 2=some (.ptr v (o+2)):=by have h:Nat.beq Tryz.t3.size 0=false:=rfl;simp only[gv,Tryz.underlying97,rB,h];rfl
def WA{c:aa}(h:bq g v off 1=some [c]):de af g 52 (.ptr v off)=some c:=by simp only[de,Tryz.underlying52,QN,h];rfl
def Ui:ig af 61=some (.agg [.ai,.ai]):=by kernel_rfl
def av9:nM af 99 0 (some [])=some ([],1,some 0):=by kernel_rfl
def aoF:∃z,ig af 4=some z/\z.cells.length=1:=⟨.bool false,by kernel_rfl,rfl⟩
def aoR{H:ah}{x:aa}{new:List aa}(A:lenOf x=some n)(D:eR H.objs.get 1 n x=some new):jM af H [99,99] [s,x]=gm H 1 1 s n new:=by obtain⟨z,u,h⟩:=aoF;have G:Tryz.t4.size=1:=rfl;have F:Tryz.t4.bytes=1:=rfl;simp+decide only[jM,Tryz.underlying99,tN,u,h,G,F,A,D]
def Fc{H:ah}{b:Bool}:dJ af H 4 (.ptr v off) (.bool b)=gM H v off [.bool b]:=by simp only[dJ,tN];rfl
def agu{H:ah}:dJ af H 61 (.ptr v off) (.agg [a,b])=gM H v off [a,b]:=by simp only[dJ,ZE];rfl
def abd(h:bq g v off 2=some [a,b]):de af g 61 (.ptr v off)=some (.agg [a,b]):=by have u:Tryz.t61.size=2:=rfl;simp only[de,Tryz.underlying61,ZE,u,h];rfl
def MM(h:a.eh=true):a.cells=[a]:=by cases a<;>first|rfl|cases h
def akI(D:a.eh=true)(A:b.eh=true):lP af 61 (some [(0,a),(1,b)])=some (.agg [a,b]):=by have ca:a.cells=[a]:=MM D;have F:b.cells=[b]:=MM A;have u:Tryz.t51.size=1:=rfl;have h:(aa.agg [.ai,.ai]).cells=[.ai,.ai]:=rfl;simp+decide only[lP,Ui,Tryz.underlying61,fill,C0,DY,ca,F,h,ep,aiB,aiC,u,ug,Vr,Option.isSome_some,aiz,cD,dG,dh,dC,cM,dW,jS,zC]
def Y6:(eU (List.replicate n true)).set i (.bool true)=eU (List.replicate n true):=by
 have:eU (List.replicate n true)=List.replicate n (.bool true):=by simp[eU]
 rw[this,List.set_replicate_self]
def cj.one{H:ah}{cs:List aa}(h:cj H sz n s cs fm):s.eh=true:=by obtain⟨_,⟨rfl,_⟩|⟨v,r,rfl,_⟩⟩:=h<;>rfl
def apM(UJ:YQ Z7){H:ah}(g:Good H)(hI:cu I H.objs.get){bs:List Bool}{G D s1 s2:aa}(hE:RP I (.sl (lE.map Ed.c) none) D)(oN:G.eh=true)(oE:D.eh=true)
 (h1:jd H.objs.get 1 n s1 (eU (List.replicate n true))) (h2:jd H.objs.get 1 bs.length s2 (eU bs)) (hn:n<=1000) (hb:bs.length<=lE.length) (aR:lE.length<=1000) (aI:∀e∈lE,(0<=e.fr/\e.fr<n)/\(0<=e.to/\e.to<n)):
 ∃r,fI af ng Z7 24 [.agg [G,D],s1,s2] H r/\Fr none H r.2/\Good r.2/\∃a b fa fb,r.1=.agg [a,b]/\cj r.2 1 (fF 0 (List.replicate n true) []).length a (cT (fF 0 (List.replicate n true) [])) fa/\kM H fa/\cj r.2 1 (fF 0 bs []).length b (cT (fF 0 bs [])) fb/\kM H fb:=by
 refine qn Tryz.func24 rfl ?_;show W af ng Z7 43 _ _ _ _;have a0:aw (fH [.agg [G,D],s1,s2] 0 .nil) 0=.agg [G,D]:=rfl;have a1:aw (fH [.agg [G,D],s1,s2] 0 .nil) 1=s1:=rfl;have a2:aw (fH [.agg [G,D],s1,s2] 0 .nil) 2=s2:=rfl;have N:(aa.agg [G,D]).cells=[G,D]:=rfl;have aJ:(aa.agg [.ai,.ai]).cells=[.ai,.ai]:=rfl;have f0:=gH g [G,D] true 1;have g0:=gD g [G,D] true 1;have f1:=gH g0 [.ai,.ai] true 1;have g1:=gD g0 [.ai,.ai] true 1;have o3:=(ic H [G,D] true 1).keep f1 (by simp);have o6:=ic (alloc H [G,D] true 1) [.ai,.ai] true 1;generalize au:alloc (alloc H [G,D] true 1) [.ai,.ai] true 1=F at*;have aQ:F.next=H.next+2:=by rw[<-au];rfl
 have aj:(alloc H [G,D] true 1).next=H.next+1:=rfl
 rw[aj]at o6;refine aO (bW (H':=F) (λ T=>aw T 3=.ptr H.next 0/\aw T 6=.ptr (H.next+1) 0) ?_ ?_)
 ·(repeat ((first|apply bA (br rfl)|apply bO rfl rfl rfl);simp+decide only[AB,a0,N,Ui,aJ,au,aj];rfl))
  exact bF (by simp+decide only[AB,vI])
 rintro T1 ⟨t3,t6⟩ k1
 have b1:=(k1 1 rfl).trans a1;have b2:=(k1 2 rfl).trans a2;have gl:=gD g1 [] true 1;have fl:=gH g1 [] true 1;have ol:cj (alloc F [] true 1) 1 0 (.slice F.next 0 0 none) [] (some F.next):=⟨rfl,.inr ⟨_,_,rfl,ic F [] true 1,rfl,by simp,by simp,rfl⟩⟩;have aK:(eU (List.replicate n true)).length=n:=by rw[Bf,om]
 obtain⟨x,K0,fm0,q1,q2,q3,q4,q5⟩:=Cs (k:=n) (bytes:=1) (new:=eU (List.replicate n true)) gl (by decide) ol (by rw[aK];omega) (am9 _) (by unfold eJ;omega) (by unfold eJ;omega);rw[iX,jS]at q2;have av:jd (alloc F [] true 1).objs.get 1 n s1 (eU (List.replicate n true)):=((h1.keep f0).keep f1).keep fl;have Z:=aoR (s:=.slice F.next 0 0 none) av.lenOf av.cells;rw[q1]at Z;have ax:kM F (some F.next):=λ f e=>(by cases e;exact be _)
 have aN:Fr none F K0:=fl.jE g1 q3 ax
 have ay:kM F fm0:=by
  rcases q5 with rfl|⟨f,h1,rfl⟩
  .exact ax
  intro f' e;cases e;have h2:(alloc F [] true 1).next=F.next+1:=rfl
  omega
 refine aO (bW (H':=K0) (λ T=>aw T 7=x) ?_ ?_)
 ·(repeat ((first|apply bA (br rfl)|apply bO rfl rfl rfl);simp+decide only[AB,b1,av9,Z];rfl))
  exact bF (by simp+decide only[AB])
 intro T2 t7 k2;have c2:=(k2 2 rfl).trans b2;have c3:=(k2 3 rfl).trans t3;have c6:=(k2 6 rfl).trans t6;refine aO (aO (bW (H':=K0) (λ T=>aw T 8=.int .i64 (Int.ofNat 0)) ?_ ?_))
 ·(repeat ((first|apply bA (br rfl)|apply bO rfl rfl rfl);simp+decide only[AB,c2];rfl))
  exact bF (by simp+decide only[AB];rfl)
 intro T3 t8 k3;have d2:=(k3 2 rfl).trans c2;have d3:=(k3 3 rfl).trans c3;have d6:=(k3 6 rfl).trans c6;have d7:=(k3 7 rfl).trans t7;refine ku (tj (λ m T K=>∃(i:Nat),m+i=bs.length/\cj K 1 n x (eU (List.replicate n true)) fm0/\Fr none F K/\Good K/\aw T 2=s2/\aw T 3=.ptr H.next 0/\aw T 6=.ptr (H.next+1) 0/\aw T 7=x/\aw T 8=.int .i64 (Int.ofNat i)) ?_ bs.length _ _ ⟨0,by omega,q2,aN,q4,d2,d3,d6,d7,t8⟩)
 rintro m T K ⟨i,hm,ho,A,gk,u2,u3,u6,u7,u8⟩
 have ab:jd K.objs.get 1 bs.length s2 (eU bs):=((h2.keep f0).keep f1).keep A;refine aO (aO (bW (H':=K) (λ T=>aw T 15=.bool (decide (Int.ofNat i<Int.ofNat bs.length))) ?_ ?_))
 ·(repeat ((first|apply bA (br rfl)|apply bO rfl rfl rfl);simp+decide only[AB,u2,u8,ab.dD Tryz.underlying99];rfl))
  exact bF (by simp+decide only[AB])
 intro T4 aC k4;have v2:=(k4 2 rfl).trans u2;have v3:=(k4 3 rfl).trans u3;have v6:=(k4 6 rfl).trans u6;have v7:=(k4 7 rfl).trans u7;have v8:=(k4 8 rfl).trans u8;refine jZ (by rw[mc,aC]) (λ M=>?_) (λ aT=>?_)
 .have M:i<bs.length:=by have:=jk M;simpa using this
  have hx:bs[i]? =some bs[i]:=cW M;obtain⟨v,off,aH,_,J⟩:=ab.index M Tryz.underlying99 tN rfl;have J:=J 0 (.bool bs[i]) (by omega) (by simp[eU,hx]);rw[nY]at J;have ld:=aa7 J;have Y:∀{t:TypeId},cV af .add t (.int .i64 (Int.ofNat i)) (.int .i64 1)=some (.int .i64 (Int.ofNat (i+1))):=wu (by omega);refine kH (aO (ku (aO (bW (H':=K) (λ T=>aw T 21=.bool bs[i]) ?_ ?_))))
  ·(repeat ((first|apply bA (br rfl)|apply bO rfl rfl rfl);simp+decide only[AB,v2,v8,aH,ld];rfl))
   exact bF (by simp+decide only[AB])
  intro T5 aB k5;have w2:=(k5 2 rfl).trans v2;have w3:=(k5 3 rfl).trans v3;have w6:=(k5 6 rfl).trans v6;have w7:=(k5 7 rfl).trans v7;have w8:=(k5 8 rfl).trans v8;refine jZ (by rw[mc,aB]) (λ aU=>?_) (λ aV=>?_)
  .have al:i<lE.length:=by omega
   have he:(lE.map Ed.c)[i]? =some lE[i].c:=by rw[bM,cW al];rfl
   have aM:cu I K.objs.get:=λ u r e=>A.row u r (f1.row u r (f0.row u r (hI u r e) (by simp)) (by simp)) (by simp)
   have ap:bq K.objs.get H.next (0+1) 1=some [D]:=by have hr:=A.row _ _ o3.row (by simp);simp+decide only[bq,hr];rfl
   obtain⟨y,o,x1,x2⟩:=RK aM hE he Tryz.underlying52 ap9 rfl;obtain⟨c1,ao,ag⟩:=x2 1 (eI lE[i].fr) rfl;obtain⟨c2,an,ae⟩:=x2 2 (eI lE[i].to) rfl;simp only[RP]at ag ae;obtain⟨rfl,_⟩:=ag;obtain⟨rfl,_⟩:=ae;obtain⟨⟨p1,p2⟩,p3,p4⟩:=aI lE[i] (xC al);obtain⟨fr,am⟩:∃k:Nat,lE[i].fr=k:=⟨lE[i].fr.toNat,by omega⟩;obtain⟨to,ad⟩:∃k:Nat,lE[i].to=k:=⟨lE[i].to.toNat,by omega⟩;rw[am]at ao;rw[ad]at an;obtain⟨v1,o1,K1,e1,e2,e3,e4,e5⟩:=cj.Ch (P:=af) gk ho (i:=fr) (by omega) (c:=.bool true) rfl Tryz.underlying99 tN rfl;rw[Y6]at e3;obtain⟨ac,o2,K2,z1,z2,z3,z4,z5⟩:=cj.Ch (P:=af) e5 e3 (i:=to) (by omega) (c:=.bool true) rfl Tryz.underlying99 tN rfl;rw[Y6]at z3;have aA:∀k,iM af 52 D (.int k (Int.ofNat i))=some (.ptr y o):=x1;have aP:∀k,iM af 99 x (.int k (fr:Int))=some (.ptr v1 o1):=e1;have az:∀k,iM af 99 x (.int k (to:Int))=some (.ptr ac o2):=z1;have s1:dJ af K 4 (.ptr v1 o1) (.bool true)=some K1:=by rw[Fc];exact e2
   have aD:dJ af K1 4 (.ptr ac o2) (.bool true)=some K2:=by rw[Fc];exact z2
   refine agb (H':=K2) (λ T=>True) (by kernel_rfl) ?_ ?_
   ·(repeat ((first|apply bA (br rfl)|apply bO rfl rfl rfl);simp+decide only[AB,w3,w7,w8,ZT,WA ap,aA,auZ,akk,F1 ao,F1 an,aP,az,s1,aD];rfl))
    exact bF trivial
   intro T6 _ k6;have y8:=(k6 8 rfl).trans w8;refine bW (H':=K2) (λ T=>aw T 8=.int .i64 (Int.ofNat (i+1))) ?_ ?_
   ·(repeat ((first|apply bA (br rfl)|apply bO rfl rfl rfl);simp+decide only[AB,y8,Y];rfl))
    exact bF (by simp+decide only[AB])
   intro T7 t8 L;have aL:Fr none F K2:=(A.jE g1 e4 ay).jE g1 z4 ay;exact⟨m- 1,by omega,i+1,by omega,z3,aL,z5,(L 2 rfl).trans ((k6 2 rfl).trans w2),(L 3 rfl).trans ((k6 3 rfl).trans w3),(L 6 rfl).trans ((k6 6 rfl).trans w6),(L 7 rfl).trans ((k6 7 rfl).trans w7),t8⟩
  refine kH (bW (H':=K) (λ T=>aw T 8=.int .i64 (Int.ofNat (i+1))) ?_ ?_)
  ·(repeat ((first|apply bA (br rfl)|apply bO rfl rfl rfl);simp+decide only[AB,w8,Y];rfl))
   exact bF (by simp+decide only[AB])
  intro T7 t8 L;exact⟨m- 1,by omega,i+1,by omega,ho,A,gk,(L 2 rfl).trans w2,(L 3 rfl).trans w3,(L 6 rfl).trans w6,(L 7 rfl).trans w7,t8⟩
 .refine tX ?_;show W af ng Z7 43 _ _ _ _;have aG:jd K.objs.get 1 (List.replicate n true).length x (eU (List.replicate n true)):=by rw[om];exact ho.read
  obtain⟨⟨ra,Ka⟩,a1,fa,a2,a3,a4,a5⟩:=UJ K x (List.replicate n true) gk aG (by rw[om];exact hn);obtain⟨⟨rb,Kb⟩,b1,fb,b2,b3,b4,b5⟩:=UJ Ka s2 bs a5 (ab.keep a4) (by omega);simp only at a2 a4 a5 b1 b2 b4 b5;have aE:=((o6.keep A (by simp)).keep a4 (by simp)).keep b4 (by simp);have oa:ra.eh=true:=a2.one;have ob:rb.eh=true:=b2.one;obtain⟨Kc,w1,w2,w3,w4,w5⟩:=lO b5 aE (off:=0) (new:=[ra,rb]) (by simp) (by simp[oa,ob]);have aF:dJ af Kb 61 (.ptr (H.next+1) 0) (.agg [ra,rb])=some Kc:=by rw[agu];exact w1
  refine aO (bW (H':=Kc) (λ T=>aw T 6=.ptr (H.next+1) 0) ?_ ?_)
  ·(repeat ((first|apply bA (br rfl)|apply bO rfl rfl rfl);simp+decide only[AB,v2,v6,v7,jS,oq,apN,a1,b1,akI oa ob,aF];rfl))
   exact bF (by simp+decide only[AB,v6])
  intro T8 t6 _;have J:bq Kc.objs.get (H.next+1) 0 2=some [ra,rb]:=by simp+decide only[bq,w2.row];rfl
  refine oR ⟨by simp,[.agg [ra,rb]],?_,?_⟩;.show jL af Kc.objs.get T8 [.cell 6 61]=_;simp only[jL,t6,abd J]
  have ak:∀f,some f=some (H.next+1)->F.next<=f->False:=λ f e h=>by cases e;omega
  have na:fa=none\/fa≠some (H.next+1):=by
   rcases fa with _|f
   .exact .inl rfl
   right;intro e;exact ak f e (by have:=a3 f rfl;have:=A.next;omega)
  have nb:fb=none\/fb≠some (H.next+1):=by
   rcases fb with _|f
   .exact .inl rfl
   right;intro e;exact ak f e (by have:=b3 f rfl;have:=A.next;have:=a4.next;omega)
  have ar:Fr none H Kc:=by have h1:Fr none H Kb:=(((f0.trans f1).trans A).trans a4).trans b4;exact h1.jE g w3 (λ f e=>by cases e;show H.next<=H.next+1;omega)
  refine⟨ar,w5,ra,rb,fa,fb,rfl,(a2.B7 b4).keep w3 na,λ f e=>?_,b2.keep w3 nb,λ f e=>?_⟩;.have:=a3 f e;have:=A.next;omega
  have:=b3 f e;have:=A.next;have:=a4.next;omega
end
section
variable{l:List Oper}{o:Oper}
variable{P:Program}{ng n:Nat}{Z7:aW}
def yx(h:Nat->Nat):List Oper->Nat->List Nat->List Nat->Bool->Bool
 |[],_,_,_,_=>true
 |o::l,i,rs,cA,eP=>match dj o.op with
  |0=>yx h l (i+1) rs cA eP
  |1=> !eP&&yx h l (i+1) (i::rs) cA eP
  |2=>yx h l (i+1) rs (i::cA) eP
  |_=>qJ (h i) cA&&(qJ (h i) rs&&yx h l (i+1) rs (i::cA) true)
def J5(P:Program)(ng:Nat)(Z7:aW)(H0:ah)(T:Tr aa)(H:ah)(o:Op):Option (aa×ah):=
 match dj o with
 |1=>(match bK P ng Z7 T H0 o with|some r=>some (r.1,H)|none=>none)
 |_=>bK P ng Z7 T H o
def rC(P:Program)(ng:Nat)(Z7:aW)(n:Nat)(H0:ah)(Z8:List Oper):List Oper->Tr aa->ah->Option (Tr aa×ah)
 |[],T,H=>some (T,H)
 |o::l,T,H=>if bJ Z8 T o=true then(match J5 P ng Z7 H0 T H o.op with|some r=>rC P ng Z7 n H0 Z8 l (cG n T o.dst r.1) r.2|none=>none)else rC P ng Z7 n H0 Z8 l (cG n T o.dst (.tuple [])) H
def YK{H:ah}(wf:WF H){cs:List aa}{ex:Bool}:(∀u r,H.objs.get u=some r->(alloc H cs ex sz).objs.get u=some r)/\WF (alloc H cs ex sz):=by
 refine⟨λ u r h=>?_,λ u r h=>?_⟩;.have:=(wf u r h).1;simp only[alloc];rw[Tr.tJ _ (by omega)];exact h
 simp only[alloc]at h⊢;rw[Tr.fT]at h;split at h;.rename_i e;subst e;cases h;exact⟨iW _,iW _⟩
 have:=wf u r h;exact⟨by omega,by omega⟩
def wh{K:Nat->Nat}:∀{l:List Oper} {i:Nat} {rs cA:List Nat} {eP:Bool} {S:eX} {T T':Tr aa} {H H':ah},yx K l i rs cA eP=true->(∀a∈S.cA,a∈cA)->(∀r∈S.rs,r.1∈rs)->(eP=false->(∀u r,H0.objs.get u=some r->H.objs.get u=some r)/\WF H/\S.es=[])->
 (∀r∈S.rs,dP P ng r.2.1 H0.objs.get r.2.2.1=some r.2.2.2)->(∀r∈S.rs,∀e∈S.es,tb (K e.1) r.1=true)->rC P ng Z7 n H0 Z8 l T H=some (T',H')->
 ∃S',gF P ng Z7 n Z8 K l i S T H=some (S',T',H')/\(∀r∈S'.rs,dP P ng r.2.1 H0.objs.get r.2.2.1=some r.2.2.2)/\(∀r∈S'.rs,∀e∈S'.es,tb (K e.1) r.1=true)
 |[],i,rs,cA,eP,S,T,T',H,H',_,_,_,_,L,M,h=>by cases h;exact⟨S,rfl,L,M⟩
 |o::l,i,rs,cA,eP,S,T,T',H,H',D,Y,N,h3,L,M,h=>by
  unfold rC at h;rw[RC];simp only[yx]at D;cases hw:bJ Z8 T o
  .rw[hw]at h;simp only[rI,qv]at h⊢;rcases DV o.op with F|F|F|F
   .rw[F]at D;exact wh D Y N h3 L M h
   .rw[F]at D;simp only[aR]at D;exact wh D.2 Y (λ r hr=>cz _ (N r hr)) h3 L M h
   .rw[F]at D;exact wh D (λ a G=>cz _ (Y a G)) N h3 L M h
   rw[F]at D;simp only[aR]at D;exact wh D.2.2 (λ a G=>cz _ (Y a G)) N (λ e=>by cases e) L M h
  rw[hw]at h;simp only[jz]at h⊢;unfold J5 at h;rcases DV o.op with F|F|F|F
  .rw[F]at D h;simp only at h;cases A:bK P ng Z7 T H o.op;.rw[A]at h;cases h
   rename_i r;rw[A]at h;simp only at h⊢;rw[ab6 F];have ac:r.2=H:=by simp only[bK,F]at A;unfold fZ at A;split at A<;>cases A;rfl
   rw[ac]at h⊢;exact wh D Y N h3 L M h
  .rw[F]at D h;simp only[aR,Ia]at D;obtain⟨e1,e2,e3⟩:=h3 D.1;simp only at h;cases A:bK P ng Z7 T H0 o.op;.rw[A]at h;cases h
   rename_i r;rw[A]at h;simp only at h
   have ab:dP P ng T H0.objs.get o.op=some r.1:=by
    simp only[bK,F]at A;unfold fZ at A;split at A;.rename_i v hv;cases A;exact hv
    cases A
   have ad:bK P ng Z7 T H o.op=some (r.1,H):=by simp only[bK,F,adY e1 ab];rfl
   rw[ad];simp only;rw[abk F];refine wh (S:=sW i T o.op S r.1) D.2 Y (λ x J=>?_) h3 (λ x J=>?_) (λ x J e he=>?_) h
   .rcases ck.1 (show x∈(i,T,o.op,r.1)::S.rs from J)with rfl|J
    .exact cS ..
    exact cz _ (N x J)
   .rcases ck.1 (show x∈(i,T,o.op,r.1)::S.rs from J)with rfl|J
    .exact ab
    exact L x J
   have he:e∈S.es:=he;rw[e3]at he;cases he
  .rw[F]at D h;simp only at h;cases A:bK P ng Z7 T H o.op;.rw[A]at h;cases h
   rename_i r;rw[A]at h;simp only at h⊢
   have Z:∃cs sz,r.2=alloc H cs true sz:=by
    simp only[bK,F]at A;unfold mX at A;split at A;.cases A;exact⟨_,_,rfl⟩
    cases A
   obtain⟨cs,sz,Z⟩:=Z;rw[show ib (K i) i T o.op S r=some (HM i S) by unfold ib;rw[F];rfl];refine wh (S:=HM i S) D (λ a G=>?_) N (λ e=>?_) L M h
   .rcases ck.1 (show a∈i::S.cA from G)with rfl|G
    .exact cS ..
    exact cz _ (Y a G)
   obtain⟨e1,e2,e3⟩:=h3 e;rw[Z];exact⟨λ u r hu=>(YK e2).1 u r (e1 u r hu),(YK e2).2,e3⟩
  rw[F]at D h;simp only[aR]at D;simp only at h;cases A:bK P ng Z7 T H o.op;.rw[A]at h;cases h
  rename_i r;rw[A]at h;simp only at h⊢;rw[ahv F (A1.2 λ a G=>A1.1 D.1 a (Y a G))];refine wh (S:=Bc i S r.2) D.2.2 (λ a G=>?_) N (λ e=>by cases e) L (λ x J e he=>?_) h
  .rcases ck.1 (show a∈i::S.cA from G)with rfl|G
   .exact cS ..
   exact cz _ (Y a G)
  rcases ck.1 (show e∈(i,r.2.objs)::S.es from he)with rfl|he
  .exact A1.1 D.2.1 _ (N x J)
  exact M x J e he
def amh{Z8:Array Oper}{G:Tr aa}{H:ah}(wf:WF H)(K:yx (cO Z8) Z8.toList 0 [] [] false=true)(h:rC P ng Z7 n H Z8.toList Z8.toList T H=some (G,H')):jn P ng Z7 n Z8 T H true=some (G,H'):=by
 obtain⟨S,M,L,h3⟩:=wh (S:=⟨[],[],[]⟩) K (λ a u=>by cases u) (λ a u=>by cases u) (λ _=>⟨λ _ _ e=>e,wf,rfl⟩) (λ a u=>by cases u) (λ a u=>by cases u) h;show nL P ng (cO Z8) H.objs (gF P ng Z7 n Z8.toList (cO Z8) Z8.toList 0 ⟨[],[],[]⟩ T H)=_;rw[M];simp only[nL]
 have:∀rs:List (Nat×Tr aa×Op×aa),(∀r∈rs,dP P ng r.2.1 H.objs.get r.2.2.1=some r.2.2.2)->(∀r∈rs,∀e∈S.es,tb (cO Z8 e.1) r.1=true)->vd P ng (cO Z8) H.objs S.es rs=true:=by
  intro rs;induction rs with
  |nil=>intro _ _;rfl
  |cons r rs J=>
   intro F D;rw[abn,J (λ x A=>F x (cz _ A)) (λ x A=>D x (cz _ A)),Tk (F r (cS ..)) (D r (cS ..))];rfl
 rw[this S.rs L h3]
def TZ{H:ah}(D:dj o.op=1)(u:bJ Z8 T o=true)(A:bK P ng Z7 T H0 o.op=some r)
 (h:∃T',rC P ng Z7 n H0 Z8 l (cG n T o.dst r.1) H=some (T',H')/\R T'):∃T',rC P ng Z7 n H0 Z8 (o::l) T H=some (T',H')/\R T':=by
 obtain⟨T',G,F⟩:=h;refine⟨T',?_,F⟩;unfold rC J5;rw[ao u,D];simp only[A];exact G
def Ri{H:ah}(D:Nat.beq (dj o.op) 1=false)(F:bJ Z8 T o=true)(u:bK P ng Z7 T H o.op=some r)
 (h:∃T',rC P ng Z7 n H0 Z8 l (cG n T o.dst r.1) r.2=some (T',H')/\R T'):∃T',rC P ng Z7 n H0 Z8 (o::l) T H=some (T',H')/\R T':=by
 obtain⟨T',A,G⟩:=h;refine⟨T',?_,G⟩;unfold rC J5;rw[ao F];rcases DV o.op with e|e|e|e
 .rw[e];simp only[u];exact A
 .rw[e]at D;cases D
 .rw[e];simp only[u];exact A
 .rw[e];simp only[u];exact A
def QW{H:ah}(h:R T):∃T',rC P ng Z7 n H0 Z8 [] T H=some (T',H)/\R T':=⟨T,rfl,h⟩
def Pp{H:ah}{Q:eE->Tr aa->ah->Prop}{id:Nat}{Z8:Array Oper}(R:Tr aa->Prop)(wf:WF H)(D:yx (cO Z8) Z8.toList 0 [] [] false=true)(h:∃u,rC P ng Z7 n H Z8.toList Z8.toList T H=some (u,H')/\R u)(F:∀u,R u->(∀t,Gj Z8.toList t=true->aw u t=aw T t)->Q .normal u H'):W P ng Z7 n (.region id Z8 true) T H Q:=by
 obtain⟨u,J,G⟩:=h;have h3:=amh wf D J;refine jH h3 (F u G ?_);unfold jn at h3;simp only[nL]at h3;split at h3
 .rename_i S K L A;split at h3;.cases h3;exact Fb (Bh A)
  cases h3
 cases h3
end
section
open Go.Proofs
variable{gl:aM}{Z7:cI}
def RB(h:n<64):cV af .shr t (.int .u64 (a.toNat:Int)) (.int .i64 (Int.ofNat n))=some (.int .u64 ((a>>>n).toNat:Int)):=by
 have:Op.shift .shr .u64 (a.toNat:Int) .i64 (n:Int)=pure (.int .u64 ((a.toNat:Int).fdiv (2^(min (n:Int).toNat IntKind.u64.bits)))):=by unfold Op.shift;rw[aj (by omega)]
 show qo (Op.shift .shr .u64 (a.toNat:Int) .i64 (n:Int))=_;rw[this];show some (aa.int .u64 _)=_
 congr 2
 rw[VE,Vo,Eo,show min n IntKind.u64.bits=n from Nu (Nat.le_of_lt h),aiH _ (Int.le_of_lt (Int.pow_pos (by decide))),Int.natCast_ediv,Int.natCast_pow];rfl
def ahe:cV af .and t (.int .u64 (a.toNat:Int)) (.int .u64 1)=some (.int .u64 ((a&&&1#64).toNat:Int)):=by show some (aa.int .u64 (IntKind.wrap .u64 (BitVec.ofInt 64 (a.toNat:Int)&&&BitVec.ofInt 64 (((1#64).toNat:Nat):Int)).toNat))=_;rw[uM,uM,Nj]
def Sz{k:IntKind}{a b:Int}(u:b≠0):cV P .rem t (.int k a) (.int k b)=some (.int k (a.tmod b)):=by have e:Go.binOp .rem t (.int k a) (.int k b)=(if k≠k then(stuck "BinOp: operands of different kinds":Sem Value)else Op.intDiv .rem k a b):=rfl;show qo (Go.binOp .rem t (.int k a) (.int k b))=_;rw[e,aj (λ h=>h rfl)];unfold Op.intDiv;rw[aj u];rfl
def abG{a:Nat}(h:a<64):cV af .rem t (.int .i64 (Int.ofNat a)) (.int .i64 64)=some (.int .i64 (Int.ofNat a)):=by rw[Sz (by decide)];show some (aa.int .i64 ((a:Int).tmod 64))=_;rw[Int.tmod_eq_of_lt (by omega) (by omega)];rfl
def rm(a:BitVec 64)(i:Nat):Bool:=decide ((((a>>>i)&&&1#64).toNat:Int)=1)
def pc(a:BitVec 64)(o n:Nat):List Bool:=(List.range n).map λ i=>rm a (o+i)
def EX:(pc a o n).length=n:=by simp[pc]
end
section
open Go.Proofs
variable{l:List Bool}
variable{ng:Nat}{Z7:aW}
def aaP(Z7:aW):Prop:=∀(I:Im) (H:ah) (lE:List Ed) (n:Nat) (bs:List Bool) (u h D A:aa),Good H->cu I H.objs.get->RP I (.sl (lE.map Ed.c) none) h->u.eh=true->h.eh=true->
 jd H.objs.get 1 n D (eU (List.replicate n true))->jd H.objs.get 1 bs.length A (eU bs)->n<=1000->bs.length<=lE.length->lE.length<=1000->(∀e∈lE,(0<=e.fr/\e.fr<n)/\(0<=e.to/\e.to<n))->
 ∃r,Z7 24 [.agg [u,h],D,A] H=some r/\Fr none H r.2/\Good r.2/\∃a b fa F,r.1=.agg [a,b]/\cj r.2 1 (fF 0 (List.replicate n true) []).length a (cT (fF 0 (List.replicate n true) [])) fa/\kM H fa/\cj r.2 1 (fF 0 bs []).length b (cT (fF 0 bs [])) F/\kM H F
def ai4{l:List aa}{H:ah}:ir af Z7 24 l H=Z7 24 l H:=by simp only[ir,Tryz.func24];rfl
def awU:gv af 54 (.ptr v o) 0=some (.ptr v (o+0)):=by have h:Nat.beq Tryz.t51.size 0=false:=rfl;simp only[gv,Tryz.underlying54,DY,QN,h];rfl
def axg:Tryz.prog.info? 54=some Tryz.t54:=by kernel_rfl
def azr{a b:aa}(h:bq g v off 2=some [a,b]):de af g 54 (.ptr v off)=some (.agg [a,b]):=by have u:Tryz.t54.size=2:=rfl;simp only[de,Tryz.underlying54,axg,u,h];rfl
def atY(n:Nat):kh [aa.bool false] n=eU (List.replicate n false):=by
 induction n with
 |zero=>rfl
 |succ n h=>simp only[kh,h,Nv];rfl
def XJ(h:n<=1000):wQ af 99 (some (.int .i64 (Int.ofNat n))) (some (.int .i64 (Int.ofNat n)))=some (eU (List.replicate n false),1,some n):=by
 have u:ig af 4=some (.bool false):=by kernel_rfl
 have A:Tryz.t4.size=1:=rfl;have F:Tryz.t4.bytes=1:=rfl;have D:(aa.bool false).cells=[.bool false]:=rfl;have J:Nat.ble (n*1) eJ=true:=b9 (by unfold eJ;omega);have G:Nat.ble n eJ=true:=b9 (by unfold eJ;omega);simp+decide only[wQ,Tryz.underlying99,tN,u,A,F,D,J,G,b9 (be n),atY];rfl
def alR(h:∀i,i<n->rm a i=true):pc a 0 n=List.replicate n true:=by
 apply xr;intro i;by_cases hi:i<n;.simp only[pc,bM,Et hi,lA,iX,h i hi,List.getElem?_replicate,ao hi]
 rw[ma (by rw[EX];omega),ma (by simp;omega)]
def AY(a:BitVec 64)(o n i:Nat)(l:List Bool):Prop:=l.length=n/\∀j,j<i->l[j]? =some (rm a (o+j))
def AY.step(h:AY a o n i l)(hi:i<n):AY a o n (i+1) (l.set i (rm a (o+i))):=by
 refine⟨by rw[VA];exact h.1,λ j u=>?_⟩;rw[If];by_cases e:i=j;.subst e;rw[ao rfl,ao (by rw[h.1];exact hi)]
 rw[aj e];exact h.2 j (by omega)
def AY.done(h:AY a o n n l):l=pc a o n:=by
 apply xr;intro i;by_cases hi:i<n;.rw[h.2 i hi];simp only[pc,bM,Et hi,lA]
 rw[ma (by rw[h.1];omega),ma (by rw[EX];omega)]
def X8:(eU l).set i (.bool b)=eU (l.set i b):=by simp[eU,aiG]
def auC(h:i+j<=1000000):cV af .add t (.int .i64 (Int.ofNat i)) (.int .i64 (Int.ofNat j))=some (.int .i64 (Int.ofNat (i+j))):=ahN h
theorem p9{es:aS}{a:aa}(h:RP I (.sl es none) a){e:TypeId}(u:Tryz.prog.underlying t=some (.slice e)):dD af t a=some (.int .i64 (Int.ofNat es.length)):=by
 simp only[RP]at h;rcases h with⟨rfl,rfl|rfl⟩|⟨v,off,A,r,sz,rfl,_⟩
 .simp only[dD,u];rfl
 .simp only[dD,u];rfl
 simp only[dD,u];rfl
def amH(aM:aaP Z7){H:ah}(g:Good H)(hI:cu I H.objs.get){F G:aa}(hN:RP I (aD lN) F)(hE:RP I (.sl (lE.map Ed.c) none) G)(oN:F.eh=true)(oE:G.eh=true)
 (hn:lN.length<=10) (hm:lE.length<=20) (aG:∀e∈lE,(0<=e.fr/\e.fr<lN.length)/\(0<=e.to/\e.to<lN.length)) (ae:∀i,i<lN.length->rm a i=true):
 ∃r,fI af ng Z7 9 [.agg [F,G],.int .u64 (a.toNat:Int)] H r/\Fr none H r.2/\Good r.2/\∃x y fx fy,r.1=.agg [x,y]/\cj r.2 1 (fF 0 (List.replicate lN.length true) []).length x (cT (fF 0 (List.replicate lN.length true) [])) fx/\kM H fx/\cj r.2 1 (fF 0 (pc a lN.length lE.length) []).length y (cT (fF 0 (pc a lN.length lE.length) [])) fy/\kM H fy:=by
 generalize aB:lN.length=n at*;generalize aC:lE.length=m at*;refine qn Tryz.func9 rfl ?_;show W af ng Z7 54 _ _ _ _;have a0:aw (fH [.agg [F,G],.int .u64 (a.toNat:Int)] 0 .nil) 0=.agg [F,G]:=rfl;have a1:aw (fH [.agg [F,G],.int .u64 (a.toNat:Int)] 0 .nil) 1=.int .u64 (a.toNat:Int):=rfl;have ac:(aa.agg [F,G]).cells=[F,G]:=rfl;have aH:(aa.agg [.ai,.ai]).cells=[.ai,.ai]:=rfl;have f0:=gH g [F,G] true 1;have g0:=gD g [F,G] true 1;have f1:=gH g0 [.ai,.ai] true 1;have g1:=gD g0 [.ai,.ai] true 1;have o2:=(ic H [F,G] true 1).keep f1 (by simp);have o4:=ic (alloc H [F,G] true 1) [.ai,.ai] true 1;generalize an:alloc (alloc H [F,G] true 1) [.ai,.ai] true 1=A at*;have aQ:A.next=H.next+2:=by rw[<-an];rfl
 have ag:(alloc H [F,G] true 1).next=H.next+1:=rfl
 rw[ag]at o4;refine aO (bW (H':=A) (λ T=>aw T 2=.ptr H.next 0/\aw T 4=.ptr (H.next+1) 0) ?_ ?_)
 ·(repeat ((first|apply bA (br rfl)|apply bO rfl rfl rfl);simp+decide only[AB,a0,ac,Ui,aH,an,ag];rfl))
  exact bF (by simp+decide only[AB,vI])
 rintro T1 ⟨t2,t4⟩ k1
 have b1:=(k1 1 rfl).trans a1;have ad:∀{K:ah},Fr none A K->bq K.objs.get H.next 0 2=some [F,G]/\bq K.objs.get H.next (0+0) 1=some [F]/\bq K.objs.get H.next (0+1) 1=some [G]:=by intro K fr;have hr:=fr.row _ _ o2.row (by simp);refine⟨?_,?_,?_⟩<;>(simp+decide only[bq,hr];rfl)
 have ax:dD af 51 F=some (.int .i64 (Int.ofNat n)):=by have:=p9 (t:=51) (es:=lN.map λ k=>[eI k]) hN Tryz.underlying51;rw[aF,aB]at this;exact this
 have ay:dD af 52 G=some (.int .i64 (Int.ofNat m)):=by have:=p9 hE Tryz.underlying52;rw[aF,aC]at this;exact this
 have fA:=gH g1 (eU (List.replicate n false)) true 1;have gA:=gD g1 (eU (List.replicate n false)) true 1;have oA:=ic A (eU (List.replicate n false)) true 1;generalize am:alloc A (eU (List.replicate n false)) true 1=L at*;have aP:L.next=A.next+1:=by rw[<-am];rfl
 have fB:=gH gA (eU (List.replicate m false)) true 1;have gB:=gD gA (eU (List.replicate m false)) true 1;have oB:=ic L (eU (List.replicate m false)) true 1;generalize al:alloc L (eU (List.replicate m false)) true 1=HB at*;have aN:HB.next=L.next+1:=by rw[<-al];rfl
 have au:cj HB 1 n (.slice A.next 0 n none) (eU (List.replicate n false)) (some A.next):=⟨by rw[Bf,om];omega,.inr ⟨_,_,rfl,oA.keep fB (by simp),rfl,by show n*1<=(eU _).length;rw[Bf,om];omega,by show(eU _).take _=_;rw[mB (by rw[Bf,om];omega)],rfl⟩⟩;have ar:cj HB 1 m (.slice L.next 0 m none) (eU (List.replicate m false)) (some L.next):=⟨by rw[Bf,om];omega,.inr ⟨_,_,rfl,oB,rfl,by show m*1<=(eU _).length;rw[Bf,om];omega,by show(eU _).take _=_;rw[mB (by rw[Bf,om];omega)],rfl⟩⟩;refine aO (Pp (H':=HB) (λ T=>aw T 5=.slice A.next 0 n none/\aw T 6=.slice L.next 0 m none) g1.wf (by kernel_rfl) ?_ ?_)
 ·(repeat ((first|apply TZ rfl (br rfl)|apply Ri rfl (br rfl));simp+decide only[AB,t2,awU,ZT,TM (ad (Fr.refl _ _)).2.1,WA (ad (Fr.refl _ _)).2.2,ax,ay,so,XJ (show n<=1000 by omega),XJ (show m<=1000 by omega),am,al];rfl))
  exact QW (by simp+decide only[AB,vI])
 rintro T2 ⟨t5,t6⟩ k2
 have c1:=(k2 1 rfl).trans b1;have c2:=(k2 2 rfl).trans t2;have c4:=(k2 4 rfl).trans t4;have aK:kM A (some A.next):=λ f e=>(by cases e;exact be _)
 have aJ:kM A (some L.next):=λ f e=>(by cases e;omega)
 have aL:Fr none A HB:=fA.trans fB;refine aO (aO (bW (H':=HB) (λ T=>aw T 7=.int .i64 (Int.ofNat 0)) ?_ ?_))
 ·(repeat ((first|apply bA (br rfl)|apply bO rfl rfl rfl);simp+decide only[AB,c1];rfl))
  exact bF (by simp+decide only[AB];rfl)
 intro T3 t7 k3;have d1:=(k3 1 rfl).trans c1;have d2:=(k3 2 rfl).trans c2;have d4:=(k3 4 rfl).trans c4;have d5:=(k3 5 rfl).trans t5;have d6:=(k3 6 rfl).trans t6;refine ku (tj (λ mm T K=>∃(i:Nat) (l:List Bool),mm+i=n/\AY a 0 n i l/\cj K 1 n (.slice A.next 0 n none) (eU l) (some A.next)/\cj K 1 m (.slice L.next 0 m none) (eU (List.replicate m false)) (some L.next)/\Fr none A K/\Good K/\HB.next<=K.next/\aw T 1=.int .u64 (a.toNat:Int)/\aw T 2=.ptr H.next 0/\aw T 4=.ptr (H.next+1) 0/\aw T 5=.slice A.next 0 n none/\aw T 6=.slice L.next 0 m none/\aw T 7=.int .i64 (Int.ofNat i)) ?_ n _ _ ⟨0,_,by omega,⟨by simp,λ j hj=>by omega⟩,au,ar,aL,gB,be _,d1,d2,d4,d5,d6,t7⟩)
 rintro mm T K ⟨i,l,hi,M,w5,w6,h,gk,aA,u1,u2,u4,u5,u6,u7⟩
 refine aO (aO (bW (H':=K) (λ T=>aw T 20=.bool (decide (Int.ofNat i<Int.ofNat n))) ?_ ?_))
 ·(repeat ((first|apply bA (br rfl)|apply bO rfl rfl rfl);simp+decide only[AB,u5,u7,w5.read.dD Tryz.underlying99];rfl))
  exact bF (by simp+decide only[AB])
 intro T4 ap k4;have v1:=(k4 1 rfl).trans u1;have v2:=(k4 2 rfl).trans u2;have v4:=(k4 4 rfl).trans u4;have v5:=(k4 5 rfl).trans u5;have v6:=(k4 6 rfl).trans u6;have v7:=(k4 7 rfl).trans u7;refine jZ (by rw[mc,ap]) (λ D=>?_) (λ J=>?_)
 .have D:i<n:=by have:=jk D;simpa using this
  have Z:∀{t:TypeId},cV af .add t (.int .i64 (Int.ofNat i)) (.int .i64 1)=some (.int .i64 (Int.ofNat (i+1))):=wu (by omega);obtain⟨v,o,K1,e1,e2,e3,e4,e5⟩:=cj.Ch (P:=af) gk w5 (i:=i) D (c:=.bool (rm a i)) rfl Tryz.underlying99 tN rfl;rw[X8]at e3;have s1:dJ af K 4 (.ptr v o) (.bool (decide ((((a>>>i)&&&1#64).toNat:Int)=1)))=some K1:=by rw[Fc];exact e2
  refine kH (aO (ku (bW (H':=K1) (λ T=>True) ?_ ?_)))
  ·(repeat ((first|apply bA (br rfl)|apply bO rfl rfl rfl);simp+decide only[AB,v1,v5,v7,abG (show i<64 by omega),RB (show i<64 by omega),ahe,e1,s1];rfl))
   exact bF trivial
  intro T5 _ Y;have x7:=(Y 7 rfl).trans v7;refine bW (H':=K1) (λ T=>aw T 7=.int .i64 (Int.ofNat (i+1))) ?_ ?_
  ·(repeat ((first|apply bA (br rfl)|apply bO rfl rfl rfl);simp+decide only[AB,x7,Z];rfl))
   exact bF (by simp+decide only[AB])
  intro T6 t7 N;have ab:=M.step D;rw[iX]at ab;exact⟨mm- 1,by omega,i+1,_,by omega,ab,e3,w6.keep e4 (.inr (by simp;omega)),h.jE g1 e4 aK,e5,fX aA e4.next,(N 1 rfl).trans ((Y 1 rfl).trans v1),(N 2 rfl).trans ((Y 2 rfl).trans v2),(N 4 rfl).trans ((Y 4 rfl).trans v4),(N 5 rfl).trans ((Y 5 rfl).trans v5),(N 6 rfl).trans ((Y 6 rfl).trans v6),t7⟩
 .have J:i=n:=by have:=xt J;simp at this;omega
  subst J;rw[M.done,alR ae]at w5;refine tX ?_;show W af ng Z7 54 _ _ _ _;refine aO (aO (bW (H':=K) (λ T=>aw T 8=.int .i64 (Int.ofNat 0)) ?_ ?_))
  ·(repeat ((first|apply bA (br rfl)|apply bO rfl rfl rfl);simp+decide only[AB,v1];rfl))
   exact bF (by simp+decide only[AB];rfl)
  intro T5 t8 Y;have y1:=(Y 1 rfl).trans v1;have y2:=(Y 2 rfl).trans v2;have y4:=(Y 4 rfl).trans v4;have y5:=(Y 5 rfl).trans v5;have y6:=(Y 6 rfl).trans v6;refine ku (tj (λ mm T K=>∃(j:Nat) (l:List Bool),mm+j=m/\AY a i m j l/\cj K 1 i (.slice A.next 0 i none) (eU (List.replicate i true)) (some A.next)/\cj K 1 m (.slice L.next 0 m none) (eU l) (some L.next)/\Fr none A K/\Good K/\aw T 1=.int .u64 (a.toNat:Int)/\aw T 2=.ptr H.next 0/\aw T 4=.ptr (H.next+1) 0/\aw T 5=.slice A.next 0 i none/\aw T 6=.slice L.next 0 m none/\aw T 8=.int .i64 (Int.ofNat j)) ?_ m _ _ ⟨0,_,by omega,⟨by simp,λ j hj=>by omega⟩,w5,w6,h,gk,y1,y2,y4,y5,y6,t8⟩);clear w5 w6 h gk v1 v2 v4 v5 v6 v7 u1 u2 u4 u5 u6 u7 y1 y2 y4 y5 y6 M
  rintro mm T K ⟨j,l,hj,M,w5,w6,h,gk,u1,u2,u4,u5,u6,u8⟩
  refine aO (aO (bW (H':=K) (λ T=>aw T 35=.bool (decide (Int.ofNat j<Int.ofNat m))) ?_ ?_))
  ·(repeat ((first|apply bA (br rfl)|apply bO rfl rfl rfl);simp+decide only[AB,u6,u8,w6.read.dD Tryz.underlying99];rfl))
   exact bF (by simp+decide only[AB])
  intro T6 ao N;have v1:=(N 1 rfl).trans u1;have v2:=(N 2 rfl).trans u2;have v4:=(N 4 rfl).trans u4;have v5:=(N 5 rfl).trans u5;have v6:=(N 6 rfl).trans u6;have v8:=(N 8 rfl).trans u8;refine jZ (by rw[mc,ao]) (λ D=>?_) (λ J=>?_)
  .have D:j<m:=by have:=jk D;simpa using this
   have Z:∀{t:TypeId},cV af .add t (.int .i64 (Int.ofNat j)) (.int .i64 1)=some (.int .i64 (Int.ofNat (j+1))):=wu (by omega);obtain⟨v,o,K1,e1,e2,e3,e4,e5⟩:=cj.Ch (P:=af) gk w6 (i:=j) D (c:=.bool (rm a (i+j))) rfl Tryz.underlying99 tN rfl;rw[X8]at e3;have s1:dJ af K 4 (.ptr v o) (.bool (decide ((((a>>>(i+j))&&&1#64).toNat:Int)=1)))=some K1:=by rw[Fc];exact e2
   refine kH (aO (ku (bW (H':=K1) (λ T=>True) ?_ ?_)))
   ·(repeat ((first|apply bA (br rfl)|apply bO rfl rfl rfl);simp+decide only[AB,v1,v5,v6,v8,w5.read.dD Tryz.underlying99,auC (show i+j<=1000000 by omega),abG (show i+j<64 by omega),RB (show i+j<64 by omega),ahe,e1,s1];rfl))
    exact bF trivial
   intro T7 _ k7;have x8:=(k7 8 rfl).trans v8;refine bW (H':=K1) (λ T=>aw T 8=.int .i64 (Int.ofNat (j+1))) ?_ ?_
   ·(repeat ((first|apply bA (br rfl)|apply bO rfl rfl rfl);simp+decide only[AB,x8,Z];rfl))
    exact bF (by simp+decide only[AB])
   intro T8 t8 k8;exact⟨mm- 1,by omega,j+1,_,by omega,M.step D,w5.keep e4 (.inr (by simp;omega)),e3,h.jE g1 e4 aJ,e5,(k8 1 rfl).trans ((k7 1 rfl).trans v1),(k8 2 rfl).trans ((k7 2 rfl).trans v2),(k8 4 rfl).trans ((k7 4 rfl).trans v4),(k8 5 rfl).trans ((k7 5 rfl).trans v5),(k8 6 rfl).trans ((k7 6 rfl).trans v6),t8⟩
  have J:j=m:=by have:=xt J;simp at this;omega
  subst J;rw[M.done]at w6;refine tX ?_;show W af ng Z7 54 _ _ _ _;have aI:cu I K.objs.get:=λ u r e=>h.row u r (f1.row u r (f0.row u r (hI u r e) (by simp)) (by simp)) (by simp)
  have aj:(pc a i j).length=j:=EX;obtain⟨⟨r,Ka⟩,q1,q2,q3,xa,xb,fa,fb,q4,q5,q6,q7,q8⟩:=aM I K lE i (pc a i j) F G _ _ gk aI hE oN oE w5.read (by rw[aj];exact w6.read) (by omega) (by rw[aj];omega) (by omega) (λ e he=>aG e he);simp only at q2 q3 q4 q5 q7;subst q4;have av:=(o4.keep h (by simp)).keep q2 (by simp);have ox:=q5.one;have oy:=q7.one;obtain⟨Kc,z1,z2,z3,z4,z5⟩:=lO q3 av (off:=0) (new:=[xa,xb]) (by simp) (by simp[ox,oy]);have ab:dJ af Ka 61 (.ptr (H.next+1) 0) (.agg [xa,xb])=some Kc:=by rw[agu];exact z1
  have aE:=azr (ad h).1;refine aO (bW (H':=Kc) (λ T=>aw T 4=.ptr (H.next+1) 0) ?_ ?_)
  ·(repeat ((first|apply bA (br rfl)|apply bO rfl rfl rfl);simp+decide only[AB,v2,v4,v5,v6,jS,oq,aE,ai4,q1,ab];rfl))
   exact bF (by simp+decide only[AB,v4])
  intro T7 t4 _;have az:bq Kc.objs.get (H.next+1) 0 2=some [xa,xb]:=by simp+decide only[bq,z2.row];rfl
  have aR:=h.next;refine oR ⟨by simp,[.agg [xa,xb]],?_,?_⟩;.show jL af Kc.objs.get T7 [.cell 4 61]=_;simp only[jL,t4,abd az]
  have na:fa=none\/fa≠some (H.next+1):=by
   rcases fa with _|f
   .exact .inl rfl
   right;intro e;have:=q6 f rfl;cases e;omega
  have nb:fb=none\/fb≠some (H.next+1):=by
   rcases fb with _|f
   .exact .inl rfl
   right;intro e;have:=q8 f rfl;cases e;omega
  have ak:Fr none H Kc:=by have h1:Fr none H Ka:=((f0.trans f1).trans h).trans q2;exact h1.jE g z3 (λ f e=>by cases e;show H.next<=H.next+1;omega)
  exact⟨ak,z5,xa,xb,fa,fb,rfl,q5.keep z3 na,λ f e=>by have:=q6 f e;omega,q7.keep z3 nb,λ f e=>by have:=q8 f e;omega⟩
end
section
open Go.Proofs
variable{N:aT}
variable{gl:aM}{base:eH}
def lw{α σ:Type}(f:α->σ->Option (σ⊕bZ))(g:σ->σ->Bool)(x:α)(s:σ×Bool):Option (σ×Bool⊕bZ):=match f x s.1 with
 |some (.inl s')=>some (.inl (s',s.2||g s.1 s'))
 |some (.inr r)=>some (.inr r)
 |none=>none
def Il{f:α->σ->Option (σ⊕bZ)}{g:σ->σ->Bool}:∀{l:List α} {s s':σ} {w:Bool},bP f l s=some (.inl s')->∃w',bP (lw f g) l (s,w)=some (.inl (s',w'))
 |[],s,s',w,h=>by cases h;exact⟨w,rfl⟩
 |x::l,s,s',w,h=>by
  simp only[bP]at h;split at h;.rename_i u D;obtain⟨w',A⟩:=Il (g:=g) (w:=w||g s u) h;refine⟨w',?_⟩;simp only[bP,lw,D];exact A
  .cases h
  cases h
abbrev u8:Nat×List ae:=(8,[.sl [] (some 5),.sl [] (some 3)])
def RU.aq7{r:RU}:jt true 2 r.c 1=some (.agg [aD r.lN,dY r.lE]):=by
 have:1+2<=r.c.length:=by rw[RU.len];omega
 simp only[jt,qO,ao this];rfl
def aAE{p:RU×Nat}(h:pK N p s=some (.inl s')):s<+:s':=by
 unfold pK at h;split at h;.rename_i r u;cases h;exact Ai u
 cases h
abbrev yK(R:List RU)(most:Nat)(ok:Bool)(N:aT)(i:Nat):VT:=[(1,.sl (R.map RU.c) none),(3,eI most),(8,.ptr 0 8 0),(12,.ptr 0 12 0),(13,eB ok),(15,eI N.E.length),(16,eI N.V.length),(17,.ptr 0 17 0),(69,.sl (R.map RU.c) none),(70,eI R.length),(71,eI i)]
abbrev yl(N:aT)(s:List Oc×Bool):aq:={w:=s.2,cur:=[u8,(12,[.ptr 0 52 0]),(17,[qy s.1]),(52,N.c (some 5) (some 3) (some 1))],up:=[]}
def frL(hB:kK base)(hT:nD gl base)(hC:Al base)(hb:NB N)(hV:N.V.length<=1000000)(hE:N.E.length<=1000)(hR:∀r∈N.R,zg r){ok w:Bool}{r:List Oc×Bool}(hl:N.R.length<=1000000)
 (h:bP (lw (uU (pK N) [] 1000000000) (λ s s'=>decide (s.length<s'.length))) N.R.zipIdx ([],w)=some (.inl r)):
 aJ af gl (VW gl base) 122 FR (yK N.R most ok N 0) (yl N ([],w))=some (.exit 2,yK N.R most ok N N.R.length++[(72,eB false)],yl N r):=by
 have hL:=pg (P:=af) (gl:=gl) (Z7:=VW gl base) (n:=122) (l:=N.R.zipIdx) (C:=FR) (B:=Gl) (f:=lw (uU (pK N) [] 1000000000) (λ s s'=>decide (s.length<s'.length)))
  (TT:=λ i _=>yK N.R most ok N i) (ST:=λ s=>yl N s)
  (X:=λ s=>(.exit 2,yK N.R most ok N N.R.length++[(72,eB false)],yl N s)) ?_ ?_ ?_ ([],w) _ h
 .exact hL
 .intro i s;rw[aus];simp+decide only[VB,lk,aB,↓reduceIte,Nat.reduceBEq,Nat.reduceAdd,yK,yl,u8]
 .intro i s pe hi hp;rw[rP]at hi;have D:((i:Int)<(N.R.length:Int))=True:=dw (by omega);obtain⟨ru,u⟩:∃ru,N.R[i]? =some ru:=⟨_,cW hi⟩;have L:pe=(ru,i):=by rw[Eu,u]at hp;simpa using hp.symm
  subst L;have ab:(N.R.map RU.c)[i]? =some ru.c:=by rw[bM,u];rfl
  have ro:=hR ru (jm u);obtain⟨s,w'⟩:=s;unfold lw;simp only;by_cases G:[]<+:s/\(∀s',pK N (ru,i) s=some (.inl s')->s'.length<=1000000000)
  case neg=>rw[uU,aj G];trivial
  rw[uU,ao G];unfold pK at G⊢;simp only at G⊢;cases Y:mt N ru.lN ru.lE N.E.length 6 ⟨i,[],[]⟩ s;.trivial
  rename_i s';simp only;have K:s'.length<=1000000000:=G.2 s' (by rw[Y]);have J:=gW (P:=af) (t:=3) (show i<=4611686018427387904 by omega)
  have ad:∀v,VW gl base 33 [.ptr 0 52 0,.agg [aD ru.lN,dY ru.lE],eI N.E.length,.agg [eI i,.sl [] none,.sl [] none],.fn 34 [.ptr 0 12 0,.ptr 0 17 0]] [[u8,(12,[.ptr 0 52 0]),(17,[qy s]),(19,v),(52,N.c (some 5) (some 3) (some 1))]]=some (.aL [],[[u8,(12,[.ptr 0 52 0]),(17,[qy s']),(19,v),(52,N.c (some 5) (some 3) (some 1))]],decide (s.length<s'.length)):=by
   intro v;have hh:sy N [[u8,(12,[.ptr 0 52 0]),(17,[qy s]),(19,v),(52,N.c (some 5) (some 3) (some 1))]] 0 52 0 12 0 17 s:=⟨rfl,rfl,rfl⟩;have:=w33 hB hT hC hb hV (be _) hE (lN:=ru.lN) (lE:=ru.lE) (by have:=ro.ln;omega) (by have:=ro.le;omega) hh (iB _) (iB _) K Y;refine this.trans ?_;unfold jb;split;.rfl
   rename_i hn;rw[N4 (Ai Y) hn]
  have F:(ru.c.length==25)=true:=rfl;have A:ru.c.length=25:=rfl;have Z:jt true 25 ru.c 0=some (.agg ru.c):=RJ rfl;have ac:∀d k,iJ d k (N.c (some 5) (some 3) (some 1))=true:=λ _ _=>rfl
  have M:∀d k,iJ d k ru.c=true:=λ d k=>Lx ro.rc.d
  simp+decide only[Gl,VB,lk,aB,↓reduceIte,Nat.reduceBEq,Nat.reduceAdd,SP,abm,abH,afT,yK,yl,u8,D,aY (sz:=25) ab RU.len,Z,M,ac,ro.rc.s,ro.rc.k,F,A,RU.aq7,fM,fO,ft,fo,eM,cm,dh,dC,dW,cM,J,aI Si,ad]
 .intro s;refine⟨?_,λ h=>by cases h⟩;rw[rP];simp+decide only[Gl,VB,lk,aB,↓reduceIte,Nat.reduceBEq,Nat.reduceAdd,SP,jT,yK,yl,u8]
def jV.nb(h:jV N):NB N where
 k:=λ r u=>(h.ro r u).ke
 n:=λ x A=>by obtain⟨r,u,F,D⟩:=(h.oc x A).ru;have ro:=h.ro r (ni u);have:=ro.ln;have:=ro.le;omega
abbrev uH(R:List RU)(most:Nat)(fr:List Oc)(ev:Nat)(ok:Bool)(i:Nat):VT:=[(1,.sl (R.map RU.c) none),(3,eI most),(8,.ptr 0 8 0),(12,.ptr 0 12 0),(13,eB ok),(16,eI ev),(86,.sl (fr.map Oc.c) none),(87,eI fr.length),(88,eI i)]
abbrev kA(s:(aT×Bool)×Bool):aq:={w:=s.2,cur:=[u8,(12,[.ptr 0 52 0]),(52,s.1.1.c (some 5) (some 3) (some 1))],up:=[]}
def ME(most:Nat)(s h:aT×Bool):Bool:=decide (s.1.V.length<most/\s.2=true)
def q37:cy af 37=true:=by kernel_rfl
def adL(hB:kK base){R:List RU}{ev:Nat}(ai:fr.length<=1000000000){s0 r:(aT×Bool)×Bool}(h:bP (lw (uJ most) (ME most)) fr s0=some (.inl r)):
 aJ af gl (VW gl base) 122 EN (uH R most fr ev s0.1.2 0) (kA s0)=some (.exit 4,uH R most fr ev r.1.2 fr.length++[(89,eB false)],kA r):=by
 have hL:=pg (P:=af) (gl:=gl) (Z7:=VW gl base) (n:=122) (l:=fr) (C:=EN) (B:=A5) (f:=lw (uJ most) (ME most))
  (TT:=λ i s=>uH R most fr ev s.1.2 i) (ST:=λ s=>kA s)
  (X:=λ s=>(.exit 4,uH R most fr ev s.1.2 fr.length++[(89,eB false)],kA s)) ?_ ?_ ?_ s0 _ h
 .exact hL
 .intro i s;rw[aoi];simp+decide only[VB,lk,aB,↓reduceIte,Nat.reduceBEq,Nat.reduceAdd,uH,kA,u8]
 .intro i s x hi hp;have u:((i:Int)<(fr.length:Int))=True:=dw (by omega);have he:(fr.map Oc.c)[i]? =some x.c:=by rw[bM,hp];rfl
  obtain⟨⟨M,ok⟩,w'⟩:=s;have D:=gW (P:=af) (t:=3) (show i<=4611686018427387904 by omega);have G:∀d k,iJ d k (M.c (some 5) (some 3) (some 1))=true:=λ _ _=>rfl
  have F:(M.c (some 5) (some 3) (some 1))[2]? =some (.sl (M.V.map Oc.c) (some 3)):=rfl;unfold lw uJ ME;simp only;by_cases K:M.V.length<most/\ok=true
  .rw[ao K];have Z:((M.V.length:Int)<(most:Int))=True:=dw (by omega);by_cases hk:jV M/\qL M x/\M.E.length<=200
   case neg=>rw[aj hk];trivial
   rw[ao hk];obtain⟨A,k2,k3⟩:=hk;obtain⟨l1,J,ag⟩:=Rn A k2.ru M.V.length M.E.length;obtain⟨b1,L,ak⟩:=Iq A k2.us;have ha:uX M x=some (M.add x l1 b1,decide (((M.E++l1).length:Int)<=200)):=by unfold uX;rw[J,L]
   rw[ha];simp only;obtain⟨ru,ab,ae,ad⟩:=k2.ru;have ro:=A.ro ru (ni ab);have Y:∀v,VW gl base 37 [.ptr 0 52 0,.agg x.c] [[u8,(12,[.ptr 0 52 0]),(21,v),(52,M.c (some 5) (some 3) (some 1))]]=some (eB (decide (((M.E++l1).length:Int)<=200)),[[u8,(12,[.ptr 0 52 0]),(21,v),(52,(M.add x l1 b1).c (some 5) (some 3) (some 1))]],true):=by intro v;refine(w37 (S:=[[u8,(12,[.ptr 0 52 0]),(21,v),(52,M.c (some 5) (some 3) (some 1))]]) hB A.nb (d:=0) (k:=52) rfl (λ r hr=>?_) (by omega) (by have:=A.vl;omega) (by have:=A.vl;have:=A.cv;omega) (by have:=ro.ln;omega) (by have:=ro.le;omega) J (by omega) L).trans rfl;have ro:=A.ro r hr;exact⟨ro.rc,by have:=ro.rn;omega,by have:=ro.ik;have:=ro.kl;omega,by have:=ro.re;omega,ro.ie⟩
   obtain⟨c2,rfl⟩:=K;have hd:decide (M.V.length<most/\True)=true:=by simp[c2]
   simp only[Oc.c]at Y;simp+decide only[A5,VB,lk,aB,↓reduceIte,Nat.reduceBEq,Nat.reduceAdd,FY,Kw,IK,aa5,MB,uH,kA,u8,u,aY he,Oc.c,G,F,aF,Z,aI q37,Y,D];simp only[dw c2,rO,Ns,rM]
  rw[aj K];simp only;have hd:decide (M.V.length<most/\ok=true)=false:=cX K;rw[hd,En];by_cases hv:M.V.length<most
  .have Z:((M.V.length:Int)<(most:Int))=True:=dw (by omega)
   have ac:ok=false:=by
    cases ok;.rfl
    exact(K ⟨hv,rfl⟩).elim
   subst ac;simp+decide only[A5,VB,lk,aB,↓reduceIte,Nat.reduceBEq,Nat.reduceAdd,FY,Kw,IK,MB,uH,kA,u8,u,aY he,Oc.c,G,F,aF,Z,D]
  have Z:((M.V.length:Int)<(most:Int))=False:=b6 (by omega);simp+decide only[A5,VB,lk,aB,↓reduceIte,Nat.reduceBEq,Nat.reduceAdd,FY,Kw,IK,MB,uH,kA,u8,u,aY he,Oc.c,G,F,aF,Z,D]
 .intro s;refine⟨?_,λ h=>by cases h⟩;simp+decide only[A5,VB,lk,aB,↓reduceIte,Nat.reduceBEq,Nat.reduceAdd,FY,jT,uH,kA,u8]
end
section
open Go.Proofs
variable{R:List RU}
variable{gl:aM}{base:eH}
abbrev sZ(R:List RU)(most:Nat)(a b:Bool):VT:=[(1,.sl (R.map RU.c) none),(3,eI most),(8,.ptr 0 8 0),(12,.ptr 0 12 0),(13,eB a),(14,eB b)]
abbrev PE(R:List RU)(most:Nat)(a:Bool):VT:=[(1,.sl (R.map RU.c) none),(3,eI most),(8,.ptr 0 8 0),(12,.ptr 0 12 0),(13,eB a),(56,eB false)]
def unE{a:Bool}(h:(b&&a)=false){s:(aT×Bool)×Bool}:aJ af gl (VW gl base) 122 Az (sZ R most a b) (kA s)=some (.exit 0,PE R most a,kA s):=by
 rw[Z6];cases b;.simp+decide only[AH,VB,lk,aB,↓reduceIte,Nat.reduceBEq,Nat.reduceAdd,KX,sZ,kA,u8]
 cases a;.simp+decide only[AH,VB,lk,aB,↓reduceIte,Nat.reduceBEq,Nat.reduceAdd,KX,sZ,kA,u8]
 cases h
def unR(Z:kK base)(hT:nD gl base)(hC:Al base){N:aT}(F:jV N)(hE:N.E.length<=200)(L:N.R.length<=3){most:Nat}(h:xn N=some fr){M:aT}{ok:Bool}(K:bP (uJ most) fr (N,true)=some (.inl (M,ok)))(w:Bool):
 ∃w',aJ af gl (VW gl base) 122 AH (sZ N.R most true true) (kA ((N,true),w))=some (.normal,sZ N.R most ok (decide ((M.V.length:Int)>(N.V.length:Int))),kA ((M,ok),w')):=by
 have ab:=auU F (by omega) L h
 have D:bP (pK N) N.R.zipIdx []=some (.inl fr):=by
  unfold xn at h;split at h;.rename_i r hr;cases h;exact hr
  cases h
 obtain⟨w1,J⟩:=Il (g:=λ s s':List Oc=>decide (s.length<s'.length)) (w:=w) (NL (B:=1000000000) (λ _ _ _ he=>aAE he) (rQ _) (by omega) D);have A:=frL (gl:=gl) (most:=most) (ok:=true) Z hT hC F.nb (by have:=F.vl;omega) (by omega) F.ro (by omega) J;obtain⟨w2,G⟩:=Il (g:=ME most) (w:=w1) K;have u:=adL (gl:=gl) (R:=N.R) (ev:=N.V.length) Z (by omega) G;have gV:∀M:aT,(M.c (some 5) (some 3) (some 1))[2]? =some (.sl (M.V.map Oc.c) (some 3)):=λ _=>rfl
 have gE:∀M:aT,(M.c (some 5) (some 3) (some 1))[1]? =some (.sl (M.E.map El.c) (some 5)):=λ _=>rfl
 have Y:∀(M:aT) d k,iJ d k (M.c (some 5) (some 3) (some 1))=true:=λ _ _ _=>rfl
 refine⟨w2,?_⟩;simp only[yK,yl,uH,kA,u8,zC,jS]at A u;have A:aJ af gl (VW gl base) 122 FR [(1,.sl (N.R.map RU.c) none),(3,eI most),(8,.ptr 0 8 0),(12,.ptr 0 12 0),(13,eB true),(15,eI N.E.length),(16,eI N.V.length),(17,.ptr 0 17 0),(69,.sl (N.R.map RU.c) none),(70,eI N.R.length),(71,eI 0)] {w:=w,cur:=[(8,[.sl [] (some 5),.sl [] (some 3)]),(12,[.ptr 0 52 0]),(17,[.sl [] (some 3)]),(52,N.c (some 5) (some 3) (some 1))],up:=[]}=_:=A;have u:aJ af gl (VW gl base) 122 EN [(1,.sl (N.R.map RU.c) none),(3,eI most),(8,.ptr 0 8 0),(12,.ptr 0 12 0),(13,eB true),(16,eI N.V.length),(86,.sl (fr.map Oc.c) none),(87,eI fr.length),(88,eI 0)] _=_:=u;simp+decide only[AH,VB,lk,aB,↓reduceIte,Nat.reduceBEq,Nat.reduceAdd,KX,ae9,ahG,WV,Xp,af2,sZ,kA,u8,gV,gE,Y,aF,A,u]
def unL(hB:kK base)(hT:nD gl base)(hC:Al base){R:List RU}{E0:List El}(Z:most<=30)(D:R.length<=3):∀{f:Nat} {N M:aT} {ok w:Bool},St R E0 most N->FP most f N=some (M,ok)->
 ∃w',aJ af gl (VW gl base) 122 Az (sZ R most true true) (kA ((N,true),w))=some (.exit 0,PE R most ok,kA ((M,ok),w'))
 |0,N,M,ok,w,_,h=>by cases h
 |f+1,N,M,ok,w,u,h=>by
  have F:=u.KZ.rules;obtain⟨fr,A⟩:=ad5 u.qB;obtain⟨hc,K⟩:=W3 A;obtain⟨⟨M1,J⟩,h1,h2,h3,h4⟩:=JY (N:=N) (R:=R) (E0:=E0) Z (s:=(N,true)) hc K (λ _=>⟨u,iD.refl N,λ y hy=>(hc y hy).pre⟩) ⟨by show N.E.length<=220;have:=u.len;omega,u.qB.vl⟩;obtain⟨w1,Y⟩:=unR (gl:=gl) hB hT hC u.qB u.len (by rw[F];exact D) A h1 w;rw[F]at Y
  have L:aJ af gl (VW gl base) 122 Az (sZ R most true true) (kA ((N,true),w))=mY (aJ af gl (VW gl base) 122 Az) (aJ af gl (VW gl base) 122 AH (sZ R most true true) (kA ((N,true),w))):=by
   conv=>lhs;rw[Z6]
   simp+decide only[VB,lk,aB,↓reduceIte,Nat.reduceBEq,Nat.reduceAdd,sZ,kA,u8]
  rw[L,Y,BX];simp only[FP,A,h1]at h;by_cases G:N.V.length<M1.V.length/\J=true;.rw[ao G]at h;obtain⟨g1,rfl⟩:=G;rw[dV (show(M1.V.length:Int)>(N.V.length:Int) by omega)];exact unL hB hT hC Z D (h2 rfl).1 h
  rw[aj G]at h;cases h;refine⟨w1,unE ?_⟩;by_cases g1:N.V.length<M.V.length
  .have:ok=false:=by
    cases ok;.rfl
    exact(G ⟨g1,rfl⟩).elim
   rw[this,aiD]
  rw[cX (show¬(M.V.length:Int)>(N.V.length:Int) by omega),aiA]
def DS:cy af 20=true:=by kernel_rfl
def Yj:cy af 32=true:=by kernel_rfl
abbrev iK(tn te:aS):ae:=.agg [.sl tn none,.sl te none]
abbrev ll(R:List RU):ae:=.sl (R.map RU.c) none
abbrev kv(lN:List Int)(lE:List Ed):ae:=.agg [aD lN,dY lE]
abbrev o9(E:List El)(V:List Oc):ae:=.agg [.sl (E.map El.c) none,.sl (V.map Oc.c) none]
def w14(hB:kK base)(hT:nD gl base)(hC:Al base)(hR:∀r∈R,zg r)(L:R.length<=3){tn:aS}(hl:lN.length+lE.length<=200){ev F:Int}{Y:Bool}
 (h:∀S,VW gl base 20 [iK tn te,ll R] S=some (eI ev,S,false)) (G:∀S,VW gl base 30 [kv lN lE] S=some (eI F,S,false)) (N:∀S,VW gl base 31 [iK tn te,kv lN lE] S=some (eB Y,S,false)) (hm:most<=30):
 ∃v,(∀S,VW gl base 14 [iK tn te,ll R,kv lN lE,eI most] S=some (v,S,false))/\((∃e:Int,e≠0/\v=.aL [o9 [] [],eI e])\/(ev=0/\F=0/\Y=true/\∃M,St R (fc lN lE) most M/\v=.aL [o9 M.E M.V,eI 0])):=by
 have u:=St.start hR hl most;obtain⟨M,ok,h1,h2,h3,h4⟩:=Wh (f:=32) hm u (by show most<0+32;omega);obtain⟨w',A⟩:=unL (gl:=gl) (w:=false) hB hT hC hm L u h1;have D:∀S,VW gl base 32 [kv lN lE] S=some (iP (fc lN lE),S,false):=λ S=>w32 (by omega) (by omega)
 have gV:(M.c (some 5) (some 3) (some 1))[2]? =some (.sl (M.V.map Oc.c) (some 3)):=rfl;have gE:(M.c (some 5) (some 3) (some 1))[1]? =some (.sl (M.E.map El.c) (some 5)):=rfl;have gU:jt true 2 (M.c (some 5) (some 3) (some 1)) 1=some (.agg [.sl (M.E.map El.c) (some 5),.sl (M.V.map Oc.c) (some 3)]):=rfl;simp only[sZ,PE,kA,u8,aT.c,Ny]at A;have A:aJ af gl (VW gl base) 122 Az [(1,.sl (R.map RU.c) none),(3,eI most),(8,.ptr 0 8 0),(12,.ptr 0 12 0),(13,eB true),(14,eB true)] _=_:=A;by_cases K:ev=0
 case neg=>
  refine⟨.aL [o9 [] [],eI ev],λ S=>iU (S':=[]) (w:=false) FC rfl rfl ?_,.inl ⟨ev,K,rfl⟩⟩;simp+decide only[bz,Cd,VB,lk,aB,↓reduceIte,Nat.reduceBEq,Nat.reduceAdd,Ce,BS,DI,acr,aI DS,h,b6 K,cX K,fM,fO,eM,cm,dh,dC,dW,cM];rfl
 subst K;by_cases J:F=0
 case neg=>
  refine⟨.aL [o9 [] [],eI F],λ S=>iU (S':=[]) (w:=false) FC rfl rfl ?_,.inl ⟨F,J,rfl⟩⟩;simp+decide only[bz,Cd,VB,lk,aB,↓reduceIte,Nat.reduceBEq,Nat.reduceAdd,Ce,BS,DI,F8,HE,Xo,aI DS,h,aI CP,G,b6 J,cX J,fM,fO,eM,cm,dh,dC,dW,cM];rfl
 subst J;cases Y;.refine⟨.aL [o9 [] [],eI 13],λ S=>iU (S':=[]) (w:=false) FC rfl rfl ?_,.inl ⟨13,by decide,rfl⟩⟩;simp+decide only[bz,Cd,VB,lk,aB,↓reduceIte,Nat.reduceBEq,Nat.reduceAdd,Ce,BS,DI,F8,HE,LU,acZ,aI DS,h,aI CP,G,aI FX,N,fM,fO,eM,cm,dh,dC,dW,cM];rfl
 .have m1:((most:Int)<0)=False:=b6 (by omega);have Z:((most:Int)>30)=False:=b6 (by omega);cases ok;.refine⟨.aL [o9 [] [],eI 3],λ S=>iU (S':=[]) (w:=w') FC rfl rfl ?_,.inl ⟨3,by decide,rfl⟩⟩;simp+decide only[bz,Cd,VB,lk,aB,↓reduceIte,Nat.reduceBEq,Nat.reduceAdd,Ce,BS,DI,F8,HE,LU,Q2,Re,PJ,O7,TK,agU,aI DS,h,aI CP,G,aI FX,N,aI Yj,D,m1,Z,fM,fO,uC,uu,uR,uy,ft,fo,eM,cm,dh,dC,dW,cM,A];rfl
  refine⟨.aL [o9 M.E M.V,eI 0],λ S=>iU (S':=[]) (w:=w') FC rfl rfl ?_,.inr ⟨rfl,rfl,rfl,M,h2 rfl,rfl⟩⟩;simp+decide only[bz,Cd,VB,lk,aB,↓reduceIte,Nat.reduceBEq,Nat.reduceAdd,Ce,BS,DI,F8,HE,LU,Q2,Re,PJ,O7,TK,aey,aI DS,h,aI CP,G,aI FX,N,aI Yj,D,m1,Z,fM,fO,uC,uu,uR,uy,ft,fo,eM,cm,dh,dC,dW,cM,A,gU];rfl
end
section
open Go.Proofs
variable{gl:aM}{base:eH}
def Cn(P:Program)(f:Field):Nat:=match P.underlying f.type with|some .bool=>0|some (.int _)=>1|_=>2
def ajG{f:Field}(h:Cn P f=0):P.underlying f.type=some .bool:=by
 unfold Cn at h;split at h;.assumption
 .cases h
 cases h
def KQ{f:Field}(h:Cn P f=1):∃k,P.underlying f.type=some (.int k):=by
 unfold Cn at h;split at h;.cases h
 .exact⟨_,by assumption⟩
 cases h
def Y5(P:Program)(t:TypeId):Bool:=match P.underlying t with
 |some (.struct fs)=> !P.stoodInHeld t&&(!P.eqGuardType P.depth t&&(ET P 0 fs.toList&&(Nat.beq 5 fs.toList.length&&decide (fs.toList.map (Cn P)=[0,1,1,1,1]))))
 |_=>false
def awI:Y5 af 41=true:=by kernel_rfl
def ay5{fs:List Field}(h:fs.map (Cn P)=[0,1,1,1,1]){a:Bool}{L K J G:IntKind}{n1 F D A:Int}:nQ P fs [.bool a,.int L n1,.int K F,.int J D,.int G A] [.bool a,.int L n1,.int K F,.int J D,.int G A]=some true:=by
 have u:fs.length=5:=by have:=dc List.length h;simpa using this
 match fs,u with
 |[f0,f1,f2,f3,f4],_=>
  simp only[fL,Ny,rG,rO]at h;obtain⟨h0,Y,N,h3,M⟩:=h;have e0:=ajG h0;obtain⟨u1,e1⟩:=KQ Y;obtain⟨u2,e2⟩:=KQ N;obtain⟨u3,e3⟩:=KQ h3;obtain⟨u4,Z⟩:=KQ M;simp only[nQ,e0,e1,e2,e3,Z,Vw,Ns]
def axe{x:El}:dn af .neq 41 (.agg x.c) (.agg x.c)=some (eB false):=by
 have h:=awI;unfold Y5 at h;split at h
 .rename_i fs A;simp only[aR,Ia,Ek]at h;obtain⟨a1,a2,a3,a4,G⟩:=h;have D:qb af 41 (.agg [.bool x.ed,.int .i64 x.ty,.int .i64 x.fr,.int .i64 x.to,.int .i64 x.ev]) (.agg [.bool x.ed,.int .i64 x.ty,.int .i64 x.fr,.int .i64 x.to,.int .i64 x.ev])=some true:=by simp only[qb,A,a1,a2,a3,a4,cD,dG,iX,Nat.reduceAdd];exact ay5 G
  have F:cV af .neq 41 (.agg [.bool x.ed,.int .i64 x.ty,.int .i64 x.fr,.int .i64 x.to,.int .i64 x.ev]) (.agg [.bool x.ed,.int .i64 x.ty,.int .i64 x.fr,.int .i64 x.to,.int .i64 x.ev])=some (.bool false):=by simp only[cV,D,Vx]
  have u:rj (.agg x.c)=some (.agg [.bool x.ed,.int .i64 x.ty,.int .i64 x.fr,.int .i64 x.to,.int .i64 x.ev]):=rfl;simp only[dn,u,F];rfl
 cases h
def w45{l:List El}(J:l.length<=1000000):VW gl base 45 [.sl (l.map El.c) none,.sl (l.map El.c) none] S=some (eB true,S,false):=by
 refine iU (S':=[]) (w:=false) m45 rfl rfl ?_
 have A:=pg (P:=af) (gl:=gl) (Z7:=VW gl base) (n:=26) (l:=l) (C:=MI) (B:=Ho) (f:=λ _ s=>some (.inl s))
  (TT:=λ i (_:Unit)=>[(0,.sl (l.map El.c) none),(1,.sl (l.map El.c) none),(12,eI l.length),(13,eI i)]) (ST:=λ _=>(aH [] []))
  (X:=λ _=>(.exit 0,[(0,.sl (l.map El.c) none),(1,.sl (l.map El.c) none),(12,eI l.length),(13,eI l.length),(14,eB false)],(aH [] []))) ?_ ?_ ?_ () (.inl ()) (by
   induction l with
   |nil=>rfl
   |cons a l F=>simp only[bP];exact F (by simp only[cD]at J;omega))
 .have A:aJ af gl (VW gl base) 26 MI [(0,.sl (l.map El.c) none),(1,.sl (l.map El.c) none),(12,eI l.length),(13,eI 0)] _=_:=A;simp+decide only[bz,VP,VB,lk,aB,↓reduceIte,Nat.reduceBEq,Nat.reduceAdd,aad,afY,aeR,adk,aF,A]
 .intro i s;rw[apx];simp+decide only[VB,lk,aB,↓reduceIte,Nat.reduceBEq,Nat.reduceAdd]
 .intro i s x hi G;have u:((i:Int)<(l.length:Int))=True:=dw (by omega);have K:(l.map El.c)[i]? =some x.c:=by rw[bM,G];rfl
  have D:=axe (x:=x);simp only[El.c]at D;simp+decide only[Ho,VB,lk,aB,↓reduceIte,Nat.reduceBEq,Nat.reduceAdd,TF,ahh,ZW,WL,u,aY K,El.c,D,gW (show i<=4611686018427387904 by omega)]
 intro s;refine⟨?_,λ h=>by cases h⟩;simp+decide only[Ho,VB,lk,aB,↓reduceIte,Nat.reduceBEq,Nat.reduceAdd,TF,jT]
end
section
open Go.Proofs
variable{M:aT}{R:List RU}{a b:ae}{l:List ae}{m:List El}
variable{gl:aM}{base:eH}
def Oa(base:eH):Prop:=bset 43=true/\∀a:List El,a.length<=1000->base 43 [.sl (a.map El.c) none]=some (iP a)
def GM:sd 0 (.aL (a::l))=some (bD a):=rfl
def GA:sd 1 (.aL (a::b::l))=some (bD b):=rfl
def U3{c:ae}:sd 2 (.aL (a::b::c::l))=some (bD c):=rfl
def q43:cy af 43=true:=by kernel_rfl
def q44:cy af 44=true:=by kernel_rfl
def q45:cy af 45=true:=by kernel_rfl
def q42:cy af 42=true:=by kernel_rfl
def q21:cy af 21=true:=by kernel_rfl
def asw{x:Oc}{r:aT⊕bZ}(h:r8 vE x M=some r):∃u,r=.inl u/\fits M x M.E.length=some true/\sO M x=false/\rF M x=some true/\uX M x=some (u,true)/\(u.E.length<=vE.length/\(vE.take u.E.length).drop M.E.length=u.E.drop M.E.length)/\jV M/\qL M x/\M.E.length<=200:=by
 unfold r8 at h;split at h
 .rename_i u G F h3 D;split at h;.rename_i A;cases h;exact⟨u,rfl,G,F,h3,D,A.1,A.2.1,A.2.2.1,A.2.2.2⟩
  cases h
 cases h
def Xx{es:aS}{o:Option Nat}{A u:IntKind}(h0:i<=j)(h:j<=es.length)(D:fR sz es=true):nf (some sz) false (.sl es o) (some (.sc (.int A (i:Int)))) (some (.sc (.int u (j:Int))))=some (.sl ((es.take j).drop i) none):=by show(if i<=j/\j<=es.length/\fR sz es=true then some (ae.sl ((es.drop i).take (j-i)) none)else none)=_;rw[ao ⟨h0,h,D⟩,zG]
abbrev yG(vV:List Oc)(i:Nat):VT:=[(5,.ptr 0 5 0),(7,.ptr 0 7 0),(9,.ptr 0 9 0),(12,.ptr 0 46 0),(48,.sl (vV.map Oc.c) none),(49,eI vV.length),(50,eI i)]
abbrev yq(vE:List El)(vV:List Oc)(lN:List Int)(lE:List Ed)(s:aT×Bool):aq:={w:=s.2,cur:=[(5,[.sl (vE.map El.c) none,.sl (vV.map Oc.c) none]),(7,[.sl [] (some 1),.sl [] (some 3)]),(9,[aD lN,dY lE]),(46,s.1.c (some 5) (some 3) (some 1))],up:=[]}
def rdL(hB:kK base)(hT:nD gl base)(hE:vE.length<=1000)(hV:vV.length<=1000){s0 r:aT×Bool}(h:bP (lw (r8 vE) (λ _ _=>true)) vV s0=some (.inl r)):
 aJ af gl (VW gl base) 125 HF (yG vV 0) (yq vE vV lN lE s0)=some (.exit 0,yG vV vV.length++[(51,eB false)],yq vE vV lN lE r):=by
 have hL:=pg (P:=af) (gl:=gl) (Z7:=VW gl base) (n:=125) (l:=vV) (C:=HF) (B:=GB) (f:=lw (r8 vE) (λ _ _=>true))
  (TT:=λ i _=>yG vV i) (ST:=λ s=>yq vE vV lN lE s)
  (X:=λ s=>(.exit 0,yG vV vV.length++[(51,eB false)],yq vE vV lN lE s)) ?_ ?_ ?_ s0 _ h
 .exact hL
 .intro i s;rw[az3];simp+decide only[VB,lk,aB,↓reduceIte,Nat.reduceBEq,Nat.reduceAdd,yG,yq]
 .intro i s x hi hp;have L:((i:Int)<(vV.length:Int))=True:=dw (by omega);have he:(vV.map Oc.c)[i]? =some x.c:=by rw[bM,hp];rfl
  obtain⟨M,w'⟩:=s;have ai:=gW (P:=af) (t:=3) (show i<=4611686018427387904 by omega);have am:∀(M:aT) d k,iJ d k (M.c (some 5) (some 3) (some 1))=true:=λ _ _ _=>rfl
  have gE:∀M:aT,(M.c (some 5) (some 3) (some 1))[1]? =some (.sl (M.E.map El.c) (some 5)):=λ _=>rfl
  unfold lw;simp only;cases hr:r8 vE x M;.trivial
  rename_i r';obtain⟨M',rfl,f1,f2,f3,f4,⟨f5,f6⟩,J,f8,f9⟩:=asw hr;simp only;obtain⟨u,Y,au⟩:=Rn J f8.ru M.V.length M.E.length;obtain⟨b1,Z,aw⟩:=Iq J f8.us;have ha:uX M x=some (M.add x u b1,decide (((M.E++u).length:Int)<=200)):=by unfold uX;rw[Y,Z]
  rw[ha]at f4;simp only[lz,Ei]at f4;obtain⟨rfl,f4⟩:=f4;obtain⟨ru,al,ap,ao⟩:=f8.ru;have ro:=J.ro ru (ni al);have D:x.no.length<=1000:=by have:=ro.ln;omega
  have G:x.ed.length<=1000:=by have:=ro.le;omega
  have ar:=J.vl;have av:=J.cv;have ab:∀F,lk F 46=some (M.c (some 5) (some 3) (some 1))->VW gl base 44 [.ptr 0 46 0,.agg x.c,eI M.E.length] [F]=some (eB true,[F],false):=λ F K=>w44 J.nb (d:=0) (k:=46) (by exact K) D G f1
  have ag:∀F,lk F 46=some (M.c (some 5) (some 3) (some 1))->VW gl base 35 [.ptr 0 46 0,.agg x.c] [F]=some (eB false,[F],false):=λ F K=>by rw[w35 (d:=0) (k:=46) (N:=M) (by exact K) (by omega) D G,f2]
  have ad:∀F,lk F 46=some (M.c (some 5) (some 3) (some 1))->VW gl base 36 [.ptr 0 46 0,.agg x.c] [F]=some (eB true,[F],false):=λ F K=>w36 hB hT J.nb (d:=0) (k:=46) (by exact K) D G f3
  have ac:∀F,lk F 46=some (M.c (some 5) (some 3) (some 1))->VW gl base 37 [.ptr 0 46 0,.agg x.c] [F]=some (eB true,[mN F 46 ((M.add x u b1).c (some 5) (some 3) (some 1))],true):=λ F K=>by
   have:=w37 (gl:=gl) (S:=[F]) hB J.nb (d:=0) (k:=46) (by exact K) (λ r hr=>by have ro:=J.ro r hr;exact⟨ro.rc,by have:=ro.rn;omega,by have:=ro.ik;have:=ro.kl;omega,by have:=ro.re;omega,ro.ie⟩) (by omega) (by omega) (by omega) D G Y (by omega) Z
   rw[f4]at this;exact this
  have A:M.E.length<=(M.add x u b1).E.length:=(iD.add M x u b1).e.length_le;have ak:nf (some 5) false (.sl ((M.add x u b1).E.map El.c) none) (some (.sc (.int .i64 (M.E.length:Int)))) (some (.sc (.int .i64 ((M.add x u b1).E.length:Int))))=some (.sl (((M.add x u b1).E.drop M.E.length).map El.c) none):=by rw[Xx A (by rw[aF];exact be _) Mo];have:((M.add x u b1).E.map El.c).take (M.add x u b1).E.length=(M.add x u b1).E.map El.c:=mB (by rw[aF];exact be _);rw[this,Nz]
  have aj:nf (some 5) false (.sl (vE.map El.c) none) (some (.sc (.int .i64 (M.E.length:Int)))) (some (.sc (.int .i64 ((M.add x u b1).E.length:Int))))=some (.sl (((M.add x u b1).E.drop M.E.length).map El.c) none):=by rw[Xx A (by rw[aF];exact f5) Mo,<-BG,<-Nz,f6]
  have an:=λ S=>w45 (gl:=gl) (base:=base) (l:=(M.add x u b1).E.drop M.E.length) (S:=S) (by rw[xz];omega)
  have g1:(((M.add x u b1).E.length:Int)>(vE.length:Int))=False:=b6 (by omega);generalize ax:M.add x u b1=M' at*;simp only[Oc.c]at ab ag ad ac;simp+decide only[GB,VB,lk,aB,↓reduceIte,Nat.reduceBEq,Nat.reduceAdd,Qf,W0,VO,XU,agG,ah5,XP,yG,yq,L,aY he,Oc.c,am,gE,aF,aI q44,ab,aI J7,ag,aI O2,ad,aI q37,ac,ak,aj,aI q45,an,g1,ai]
 .intro s;refine⟨?_,λ h=>by cases h⟩;simp+decide only[GB,VB,lk,aB,↓reduceIte,Nat.reduceBEq,Nat.reduceAdd,Qf,jT,yG,yq]
def w21(hB:kK base)(hT:nD gl base)(u:Oa base){tn te:aS}{lN:List Int}{lE:List Ed}(Z:∀y∈m,y.ev≠-1){vV:List Oc}(hE:(fc lN lE++m).length<=200)(hV:vV.length<=30)
 (hG:∀S,VW gl base 30 [kv lN lE] S=some (eI 0,S,false)) (hP:∀S,VW gl base 31 [iK tn te,kv lN lE] S=some (eB true,S,false)) (Y:bP (r8 (fc lN lE++m)) vV ⟨R,fc lN lE,[],[]⟩=some (.inl M)) (hM:M.E=fc lN lE++m) {S:List bI}:
 VW gl base 21 [iK tn te,ll R,o9 (fc lN lE++m) vV] S=some (.aL [.aL [],kv lN lE,eB true],S,false):=by
 have h:(fc lN lE).length=lN.length+lE.length:=VL;have ab:(fc lN lE++m).length=lN.length+lE.length+m.length:=by rw[dM,h]
 obtain⟨w',N⟩:=Il (g:=λ _ _=>true) (w:=false) Y;have A:=rdL (gl:=gl) (lN:=lN) (lE:=lE) hB hT (by omega) (by omega) N;have G:=λ S=>w42 (gl:=gl) (base:=base) (vV:=vV) (tn:=tn) (te:=te) Z (by omega) (by omega) hG hP (S:=S)
 have D:nf (some 5) false (.sl ((fc lN lE++m).map El.c) none) none (some (.sc (.int .i64 ((lN.length+lE.length:Nat):Int))))=some (.sl ((fc lN lE).map El.c) none):=by rw[EU (by rw[aF];omega) Mo,<-BG,<-h,aiP]
 have F:∀S,VW gl base 43 [.sl ((fc lN lE).map El.c) none] S=some (iP (fc lN lE),S,false):=λ S=>wU u.1 (u.2 _ (by omega)) rfl
 have gE:(M.c (some 5) (some 3) (some 1))[1]? =some (.sl (M.E.map El.c) (some 5)):=rfl;have L:(((fc lN lE++m).length:Int)>200)=False:=b6 (by omega);have K:((vV.length:Int)>30)=False:=b6 (by omega);have J:((M.E.length:Int)=((fc lN lE++m).length:Int))=True:=dw (by rw[hM]);simp only[yG,yq,aT.c,Ny]at A;have A:aJ af gl (VW gl base) 125 HF [(5,.ptr 0 5 0),(7,.ptr 0 7 0),(9,.ptr 0 9 0),(12,.ptr 0 46 0),(48,.sl (vV.map Oc.c) none),(49,eI vV.length),(50,eI 0)] _=_:=A;refine iU (S':=[]) (w:=w') m21 rfl rfl ?_;simp+decide only[bz,F21,VB,lk,aB,↓reduceIte,Nat.reduceBEq,Nat.reduceAdd,Ww,afQ,ZJ,agS,Yu,Zy,WC,aF,L,K,J,GM,GA,U3,aI q42,G,D,aI q43,F,fM,fO,uC,uu,uR,uy,ft,fo,eM,cm,dh,dC,dW,cM,A,gE];rfl
def w6(Z:kK base)(J:nD gl base)(h:Oa base){R:List RU}{tn te:aS}(F:∀y∈m,y.ev≠-1)(Y:(fc lN lE++m).length<=200)(G:vV.length<=30)
 (A:∀S,VW gl base 20 [iK tn te,ll R] S=some (eI 0,S,false))
 (N:∀S,VW gl base 30 [kv lN lE] S=some (eI 0,S,false)) (K:∀S,VW gl base 31 [iK tn te,kv lN lE] S=some (eB true,S,false)) (D:bP (r8 (fc lN lE++m)) vV ⟨R,fc lN lE,[],[]⟩=some (.inl M)) (L:M.E=fc lN lE++m) {S:List bI}:
 VW gl base 6 [iK tn te,ll R,o9 (fc lN lE++m) vV] S=some (eB true,S,false):=by
 have u:=λ S=>w21 (gl:=gl) (base:=base) (R:=R) (tn:=tn) (te:=te) Z J h F Y G N K D L (S:=S)
 refine iU (S':=[]) (w:=false) m6 rfl rfl ?_;simp+decide only[bz,F6,VB,lk,aB,↓reduceIte,Nat.reduceBEq,Nat.reduceAdd,acT,acx,aaW,ad2,aI DS,A,aI q21,u,GM,GA,U3]
end
section
open Go.Proofs
variable{ng:Nat}{gl:aM}{G:Gh}{H:ah}{I:Im}
def aoz(k:Nat):YQ (iv ng (k+1)):=λ H s bs g h u=>by obtain⟨r,D,A⟩:=aw4 (ng:=ng) (Z7:=iv ng k) g h u;exact⟨r,sX (by decide) (by decide) (by decide) D,A⟩
def ajK(k:Nat):aaP (iv ng (k+2)):=λ I H lE n bs Z sE s1 s2 g K L u A Y N D J F h=>by obtain⟨r,h3,M⟩:=apM (ng:=ng) (aoz (ng:=ng) k) g K L u A Y N D J F h;exact⟨r,sX (by decide) (by decide) (by decide) h3,M⟩
def Me{v w:ae}(h:bB ρ0 I [v,w] xs):∃a b,xs=[a,b]/\aA ρ0 I v a/\aA ρ0 I w b:=by obtain⟨c,cs,rfl,D,A⟩:=cf.1 h;obtain⟨J,F,rfl,h3,u⟩:=cf.1 A;simp only[bB]at u;subst u;exact⟨c,J,rfl,D,h3⟩
def axV(k:Nat)(A:cn G (dA []) H)(hn:lN.length<=10)(hm:lE.length<=20)(J:∀e∈lE,(0<=e.fr/\e.fr<lN.length)/\(0<=e.to/\e.to<lN.length))(h:∀i,i<lN.length->rm a i=true)
 (hr:bB ρ0 G.I [.agg [aD lN,.sl (lE.map Ed.c) none],eW a] xs):kr 0 G [] H (iv ng (k+3) 9 xs H) (.agg [aD (fF 0 (List.replicate lN.length true) []),aD (fF 0 (pc a lN.length lE.length) [])]) [] false:=by
 obtain⟨x,y,rfl,Y,N⟩:=Me hr;simp only[aA]at Y N;obtain⟨_,bs,rfl,h3⟩:=Y;obtain⟨sN,sE,rfl,F,D⟩:=Me h3;have oN:=vp F rfl;have oE:=vp D rfl;have F:RP G.I (aD lN) sN:=by simpa only[aA]using F
 have D:RP G.I (.sl (lE.map Ed.c) none) sE:=by simpa only[aA]using D
 obtain⟨rfl,_⟩:=N;obtain⟨r,M,q2,q3,u,v,fu,fv,L,q5,q6,Z,q8⟩:=amH (ng:=ng) (ajK (ng:=ng) k) A.gd A.fJ F D oN oE hn hm J h;rw[sX (by decide) (by decide) (by decide) M];obtain⟨w,H'⟩:=r;simp only at L;subst L;have K:=DQ (yW (ng:=ng) (k+2)) M;have r1:=q5.rp (I:=G.I) A.gd q2 K q6 (es:=(fF 0 (List.replicate lN.length true) []).map λ n=>[eI n]) (by rw[aF]) JU;have r2:=Z.rp (I:=G.I) A.gd q2 K q8 (es:=(fF 0 (pc a lN.length lE.length) []).map λ n=>[eI n]) (by rw[aF]) JU;refine Ip A q3 q2 K ?_ λ j es sz c e e2=>?_
 .simp only[aA];refine⟨rfl,_,rfl,cf.2 ⟨u,[v],rfl,by simpa only[aA]using r1,cf.2 ⟨v,[],rfl,by simpa only[aA]using r2,by simp only[bB]⟩⟩⟩
 .match j with
  |0=>simp[ae.cells]at e
  |1=>simp[ae.cells]at e
  |j+2=>simp[ae.cells]at e
open Classical in
noncomputable def bV(f:FuncId)(args:List ae):Option ae:=
 if f=43 then(match args with
  |[.sl es none]=>if∃l:List El,l.length<=1000/\es=l.map El.c then some (.sl es (some 5))else none
  |_=>none)
 else if f=68 then(match args with
  |[.sl es none]=>if∃l:List Int,l.length<=1000/\es=l.map (λ n=>[eI n])then some (.sl es (some 1))else none
  |_=>none)
 else if f=109 then(match args with
  |[.sl [[.sl a none],[.sl b none]] none]=>if∃l k:List Int,l.length<=1000/\k.length<=1000/\a=l.map (λ n=>[eI n])/\b=k.map (λ n=>[eI n])then some (.sl (a++b) none)else none
  |_=>none)
 else if f=136 then(match args with
  |[.agg [.sl tn none,.sl _ none],.sc (.int .i64 a)]=>if ta tn/\0<=a/\a<tn.length/\tn.length<=50 then some (.sl (eA tn (a.toNat+1) a) (some 4))else none
  |_=>none)
 else if f=151 then(match args with
  |[.agg [.sl tn none,.sl _ none],.sc (.int .i64 a)]=>if Cv tn/\0<=a/\a<tn.length then some (aD (jf tn (a.toNat+1) a).reverse)else none
  |_=>none)
 else if f=237 then(match args with
  |[.sl es none]=>if h:∃l:List Int,l.length<=1000/\es=l.map (λ n=>[eI n])then some (eI ((Lib.compact (mH (Classical.choose h))).length:Int))else none
  |_=>none)
 else if f=9 then(match args with
  |[.agg [.sl n none,.sl e none],.sc (.int .u64 s)]=>if∃(lN:List Int) (lE:List Ed) (a:BitVec 64),n=lN.map (λ n=>[eI n])/\e=lE.map Ed.c/\s=a.toNat/\lN.length<=10/\lE.length<=20/\(∀e∈lE,(0<=e.fr/\e.fr<lN.length)/\(0<=e.to/\e.to<lN.length))/\(∀i,i<lN.length->rm a i=true)then some (.agg [aD (fF 0 (List.replicate n.length true) []),aD (fF 0 (pc (BitVec.ofInt 64 s) n.length e.length) [])])else none
  |_=>none)
 else none
def aV(ng:Nat):aW:=λ f args H=>if bset f=true then iv ng 60 f args H else none
def anw(u:sK af):jN af ng (aV ng):=λ f args H v H' h=>by
 unfold aV at h;split at h;.exact Uz u 60 _ _ _ _ _ h
 cases h
def ai6:gS (aV ng):=λ f args H v H' h=>by
 unfold aV at h;split at h;.exact GQ 60 _ _ _ _ _ h
 cases h
theorem map_inj{k:List Int}(h:l.map (λ n=>[eI n])=k.map (λ n=>[eI n])):l=k:=by refine List.map_inj_right (λ x y e=>?_)|>.1 h;cases e;rfl
def aum:ahJ ng gl bset bV (aV ng):=by
 refine⟨λ f args v L h Z Y G H xs J N K=>?_,λ f xs H L=>by unfold aV;rw[aj (by rw[L];simp)]⟩;unfold aV;rw[ao L];unfold bV at h;split at h
 .rename_i A;subst A;split at h
  .split at h;.rename_i u;obtain⟨l,D,rfl⟩:=u;cases h;exact aka 59 J D K
   cases h
  cases h
 split at h
 .rename_i A;subst A;split at h
  .split at h;.rename_i u;obtain⟨l,D,rfl⟩:=u;cases h;exact ajT 59 J D K
   cases h
  cases h
 split at h
 .rename_i A;subst A;split at h
  .split at h;.rename_i u;obtain⟨l,k,D,F,rfl,rfl⟩:=u;cases h;have:=apz (ng:=ng) 58 J D F K;rw[<-mT];exact this
   cases h
  cases h
 split at h
 .rename_i A;subst A;split at h
  .rename_i tn te a;split at h;.rename_i u;obtain⟨D,F,h3,M⟩:=u;cases h;obtain⟨i,rfl⟩:∃i:Nat,a=i:=⟨a.toNat,by omega⟩;exact ali (ng:=ng) 59 J N D (by omega) (by omega) (by omega) K
   cases h
  cases h
 split at h
 .rename_i A;subst A;split at h
  .rename_i tn te a;split at h;.rename_i u;obtain⟨D,F,h3⟩:=u;cases h;obtain⟨i,rfl⟩:∃i:Nat,a=i:=⟨a.toNat,by omega⟩;exact ayE (ng:=ng) 58 J D (by omega) K
   cases h
  cases h
 split at h
 .rename_i A;subst A;split at h
  .rename_i es;split at h;.rename_i u;have F:=ui u;generalize Classical.choose u=l at h F;obtain⟨D,rfl⟩:=F;cases h;exact aiZ (ng:=ng) 58 J D K
   cases h
  cases h
 split at h
 .rename_i A;subst A;split at h
  .split at h;.rename_i u;obtain⟨lN,lE,a,rfl,rfl,rfl,D,F,h3,M⟩:=u;cases h;have:=axV (ng:=ng) 57 J D F h3 M K;simp only[aF];rw[uM];exact this
   cases h
  cases h
 cases h
def QA:Al bV:=⟨rfl,λ a h=>by simp only[bV];rw[aj (by decide),ao trivial,ao ⟨a,h,rfl⟩]⟩
def ajW:Oa bV:=⟨rfl,λ a h=>by simp only[bV];rw[ao trivial,ao ⟨a,h,rfl⟩]⟩
def aee:kK bV:=⟨rfl,λ a b u h=>by simp only[bV];rw[aj (by decide),aj (by decide),ao trivial,ao ⟨a,b,u,h,rfl,rfl⟩,<-mT]⟩
end
end
end Go.Abs
