/- Walks; the plain law. -/
import Derived.Test.YtkencjbbibdamaaGreatDoorH
import Derived.Test.YtkencjbbibdamaaGreatDoorI
import Derived.Test.YtkencjbbibdamaaGreatDoorJ
import Derived.Test.YtkencjbbibdamaaGreatDoorSh
import Derived.KernelRfl
set_option linter.all false
set_option maxRecDepth 100000
namespace Go.Abs
noncomputable section
open Go
variable{B count d i j k m most n o off p p2 q q2 sz v:Nat}{E0 vE:List El}{H' H0:ah}{I:Im}{P:Program}{R:Tr aa->Prop}{S:List bI}{T:Tr aa}{a:BitVec 64}{args xs:List aa}{b:Bool}{Z7:aW}{e:Int}{fm:Option Nat}{fr s s':List Oc}{g:Nat->Option Row}{l lN:List Int}{lE:List Ed}{Z8:List Oper}{r:aa×ah}{st:aq}{t:TypeId}{te:aS}{y:Oc}{α β σ:Type}
section
open Go.Proofs
variable{ng:Nat}
theorem BQ:∀(l:List Int),jx l=cT l
 |[]=>rfl
 |a::l=>by grind[jx]
theorem NU:∀{a b:List Int},jx a=jx b->a=b
 |[],[],_=>rfl
 |[],_::_,h=>by simp[jx]at h
 |_::_,[],h=>by simp[jx]at h
 |x::a,y::b,h=>by simp only[jx,fL,rG,aa.int.injEq,true_and]at h;rw[h.1,NU (a:=a) (b:=b) (by simpa[jx]using h.2)]
theorem RL(zs:List Int):(Lib.compact zs).length<=zs.length:=by grind[Lib.compact,Lib.compactUpTo,List.length_map,Nat.le_trans,List.length_filter_le]
def Dx(h:List Int):List Int:=Lib.compact h++List.replicate (h.length-(Lib.compact h).length) 0
theorem ake(zs:List Int):(Dx zs).length=zs.length:=by grind[RL,Dx]
inductive mD:FuncId->List aa->ah->aa×ah->Prop
 |LX {H:ah}:mD 28 [.ai] H (.tuple [],H)
 |sort {H H':ah} {v n:Nat} {zs:List Int} (hr:bq H.objs.get v 0 n=some (jx zs)) (hs:∃r,H.objs.get v=some r/\r.sz=1) (hl:zs.length<=1000) (hw:gM H v 0 (jx (mH zs))=some H'):mD 28 [.slice v 0 n none] H (.tuple [],H')
 |Ls {H:ah}:mD 29 [.ai] H (.ai,H)
 |comp {H H':ah} {v n:Nat} {zs:List Int} (hr:bq H.objs.get v 0 n=some (jx zs)) (hs:∃r,H.objs.get v=some r/\r.sz=1) (hl:zs.length<=1000) (hw:gM H v 0 (jx (Dx zs))=some H'):mD 29 [.slice v 0 n none] H (.slice v 0 (Lib.compact zs).length none,H')
def VJ{ng:Nat}{ρ:cr}{H:ah}{w w':World}(s:jj B ng ρ H w)(e:w'=w):cp B ng H.objs.get H.next H.next ρ w H.objs.get H.aG.get ρ w':=by subst e;exact cp.refl s _ _
def amp(w:World):Sort.grow w #[]=w:=by unfold Sort.grow;rw[Array.append_empty]
def atX:jN af ng (si mD):=by
 intro f args H v H' h B ρ w xs s wf ab M;have hR:=QJ h;cases hR with
 |LX=>
  obtain⟨y,ys,rfl,D,A⟩:=dg.1 M;obtain rfl:=nH.1 A;have D:y=.slice none 0 0:=D;subst D;exact(Tryz.slices_Sort_int_none none 0 w).mono λ e w' ⟨K,J⟩=>⟨_,ρ,K,⟨[],rfl,rfl⟩,VJ s J⟩
 |sort hr Z N Y=>
  rename_i v n L;refine(ahB (res:=λ _=>.tuple #[]) s hr Y Z (λ bC off cap hh hb F=>?_) M).mono λ e w' ⟨l,N,G,he,F⟩=>⟨_,ρ,he,⟨[],rfl,rfl⟩,F⟩
  exact Tryz.slices_Sort_int bC off cap L w hh hb (by omega)
 |Ls=>
  obtain⟨y,ys,rfl,D,A⟩:=dg.1 M;obtain rfl:=nH.1 A;have D:y=.slice none 0 0:=D;subst D;exact(Tryz.slices_Compact_int_empty none 0 w).mono λ e w' ⟨K,J⟩=>⟨_,ρ,K,rfl,VJ s J⟩
 |comp hr Z N Y=>
  rename_i v n L;refine(ahB (res:=λ l=>.slice (some ⟨l.bC,l.off,none⟩) (Lib.compact L).length l.cap) s hr Y Z (λ bC off cap hh hb F=>?_) M).mono λ e w' ⟨l,N,G,he,F⟩=>⟨_,ρ,he,⟨l,N,by simp[G]⟩,F⟩
  refine(Tryz.slices_Compact_int bC off cap L w hh (by omega) F).mono λ e w' ⟨K,q,J⟩=>⟨K,q,#[],?_⟩
  rw[J,amp];rfl
def aoU:gS (si mD):=by
 intro f args H v H' h;have J:=QJ h;cases J with
 |LX=>exact gG.refl _
 |sort F D G A=>exact MF A
 |Ls=>exact gG.refl _
 |comp F D G A=>exact MF A
def aqa:nr (si mD):=by
 intro f args H v H' h;have J:=QJ h;cases J with
 |LX=>exact iz.refl _
 |sort F D G A=>exact J2 A
 |Ls=>exact iz.refl _
 |comp F D G A=>exact J2 A
open Classical in
noncomputable def ua(ng:Nat)(Z7:aW):aW:=λ f args H=>if f=162 then(if h:∃r,rS af ng 3 8 Z7 162 args H r then some (Classical.choose h)else none)else si mD f args H
def alb{H:ah}(h:rS af ng 3 8 Z7 162 args H r):ua ng Z7 162 args H=some r:=by have A:∃r,rS af ng 3 8 Z7 162 args H r:=⟨r,h⟩;unfold ua;rw[ao rfl,xB A,(ui A).unique h]
theorem Ox{f:FuncId}{H:ah}(h:ua ng Z7 f args H=some r):(f=162/\rS af ng 3 8 Z7 162 args H r)\/si mD f args H=some r:=by
 unfold ua at h;split at h
 .rename_i A;split at h;.grind[Classical.choose_spec]
  cases h
 exact .inr h
def ape{f:FuncId}{H:ah}(A:f≠162)(D:f≠28)(h3:f≠29):ua ng Z7 f args H=none:=by
 unfold ua;rw[aj A];refine arK λ r h=>?_
 cases h<;>simp_all
def iv(ng:Nat):Nat->aW
 |0=>λ _ _ _=>none
 |k+1=>r7 af ng (ua ng (iv ng k)) (iv ng k)
def azj(A:gS Z7):gS (ua ng Z7):=λ f args H v H' h=>by
 rcases Ox h with⟨_,h⟩|h
 .exact ax6 A h
 exact aoU _ _ _ _ _ h
def akM(A:nr Z7):nr (ua ng Z7):=λ f args H v H' h=>by
 rcases Ox h with⟨_,h⟩|h
 .exact ajp A h
 exact aqa _ _ _ _ _ h
def azJ(A:jN af ng Z7)(D:gS Z7):jN af ng (ua ng Z7):=λ f args H v H' h=>by
 rcases Ox h with⟨rfl,F⟩|h
 .exact asc A D F
 exact atX _ _ _ _ _ h
def GQ:∀k,gS (iv ng k)
 |0=>λ _ _ _ _ _ h=>by cases h
 |k+1=>Zi (azj (GQ k)) (GQ k)
theorem yW:∀k,nr (iv ng k)
 |0=>λ _ _ _ _ _ h=>by cases h
 |k+1=>arS (akM (yW k)) (yW k)
def Uz(A:sK af):∀k,jN af ng (iv ng k)
 |0=>λ _ _ _ _ _ h=>by cases h
 |k+1=>W9 (azJ (Uz A k) (GQ k)) (Uz A k) (GQ k) A
theorem sX{f:FuncId}{H:ah}(D:f≠162)(A:f≠28)(h3:f≠29)(h:fI af ng (iv ng k) f args H r):iv ng (k+1) f args H=some r:=IG (ape D A h3) h
theorem JL{f:FuncId}{H:ah}(A:f≠162)(h:si mD f args H=some r):iv ng (k+1) f args H=some r:=by refine Sd ?_;grind[ua]
theorem arn(k:Nat):YB (iv ng (k+1)):=by
 intro H s zs fm g Y hl;obtain⟨G,⟨rfl,K,rfl⟩|⟨v,r,rfl,o,h,A,N,rfl⟩⟩:=Y
 .obtain rfl:=km K;obtain⟨r,G,F⟩:=IA (R:=mD) (f:=28) (args:=[.ai]) (H:=H) mD.LX;have:r=(.tuple [],H):=by cases F;rfl
  subst this;exact⟨H,JL (by decide) G,⟨by rw[wT,EV];rfl,.inl ⟨rfl,rfl,rfl⟩⟩,Fr.refl _ _,g⟩
 rw[xF]at A N;have ab:(jx (mH zs)).length=zs.length:=by simp[jx,EV]
 obtain⟨H',M,D,hf,hn,g'⟩:=lO g o (off:=0) (new:=jx (mH zs)) (by omega) (by rw[BQ];exact Jd _);have hr:bq H.objs.get v 0 zs.length=some (jx zs):=by simp only[bq,o.row];grind[Nat.ble_eq_true_of_le,BQ]
 obtain⟨J,F,h3⟩:=IA (R:=mD) (mD.sort hr ⟨r,o.row,h⟩ hl M)
 have:J=(.tuple [],H'):=by
  cases h3 with
  |sort Z _ _ L=>grind[NU,Option.some.inj]
 subst this;refine⟨H',JL (by decide) F,⟨by rw[wT,EV];omega,.inr ⟨v,_,rfl,D,h,?_,?_,rfl⟩⟩,hf,g'⟩;.grind[JG]
 grind[ep,List.take_append,List.take_of_length_le,BQ]
theorem akj(k:Nat):adZ (iv ng (k+1)):=by
 intro H s zs fm g Y hl;obtain⟨G,⟨rfl,K,rfl⟩|⟨v,r,rfl,o,h,A,N,rfl⟩⟩:=Y
 .obtain rfl:=km K;obtain⟨r,G,F⟩:=IA (R:=mD) (f:=29) (args:=[.ai]) (H:=H) mD.Ls;have:r=(.ai,H):=by cases F;rfl
  subst this;exact⟨_,H,JL (by decide) G,⟨rfl,.inl ⟨rfl,rfl,rfl⟩⟩,Fr.refl _ _,g⟩
 rw[xF]at A N;have ac:=RL zs;have ab:(jx (Dx zs)).length=zs.length:=by rw[<-ake zs];simp[jx]
 obtain⟨H',M,D,hf,hn,g'⟩:=lO g o (off:=0) (new:=jx (Dx zs)) (by omega) (by rw[BQ];exact Jd _);have hr:bq H.objs.get v 0 zs.length=some (jx zs):=by simp only[bq,o.row];grind[Nat.ble_eq_true_of_le,BQ]
 obtain⟨J,F,h3⟩:=IA (R:=mD) (mD.comp hr ⟨r,o.row,h⟩ hl M)
 have:J=(.slice v 0 (Lib.compact zs).length none,H'):=by
  cases h3 with
  |comp Z _ _ L=>grind[NU,Option.some.inj]
 subst this;refine⟨_,H',JL (by decide) F,⟨by rw[wT];omega,.inr ⟨v,_,rfl,D,h,?_,?_,rfl⟩⟩,hf,g'⟩;.grind[JG]
 grind[jx,Dx,Lib.compact,List.replicate,UQ,BQ,ep]
end
section
open Go.Proofs
variable{a:Int}{b:List Int}{s:aa}
variable{ng:Nat}{G:Gh}{H:ah}{I:Im}
def OL:∀{l:List Int} {cs:List aa},bR I 1 (l.map λ n=>[eI n]) cs->cs=cT l
 |[],cs,h=>by simpa[bR,cT]using h
 |n::l,cs,h=>by
  simp only[fL,bR]at h;obtain⟨_,A,D⟩:=h;cases cs;.simp[cE]at A
  rename_i c cs;rw[dC,dh]at A;simp only[cE]at A;obtain⟨M,K,J,F,L⟩:=A;cases J;simp only[RP]at F;rw[dW,cM]at D;rw[OL D,F.1];simp[cT]
theorem aes(L:cu I g){a:aa}(h:RP I (aD l) a):jd g 1 l.length a (cT l):=by
 have h:RP I (.sl (l.map λ n=>[eI n]) none) a:=h;simp only[RP,aF]at h;rcases h with⟨F,D⟩|⟨v,off,A,r,sz,F,D,h3,M,K⟩
 .have:l=[]:=by simpa using F
  subst this;exact⟨rfl,.inl ⟨rfl,D⟩⟩
 refine⟨by rw[wT];omega,?_⟩;cases l;.refine .inr ⟨v,off,A,r,F,L _ _ D,by grind[List.length_nil],by simp[cT]⟩
 rename_i n l;have J:sz=1:=by simp only[fL,bR]at K;exact K.1.symm
 subst J;exact .inr ⟨v,off,A,r,F,L _ _ D,M,OL K⟩
theorem Z0(A:cn G (dA []) H)(J:Good H')(fr:Fr none H H')(D:iz H H')(h:cj H' 1 l.length s (cT l) fm)(F:kM H fm):kr 0 G [] H (some (s,H')) (aD l) [] false:=by
 refine Ip A J fr D ?_ λ j es sz c e K=>?_
 .have:=h.rp (I:=G.I) A.gd fr D F (es:=l.map λ n=>[eI n]) (by rw[aF]) JU;simpa only[aA]using this
 grind[ae.cells]
theorem aun(k:Nat):aff (iv ng (k+1)):=by
 intro I H l a g M h hl;have h:RP I (.sl (l.map λ n=>[eI n]) none) a:=h;obtain⟨r,K,D,A,J⟩:=Zz (ng:=ng) (Z7:=iv ng k) g M h (λ e he=>by grind) (by rw[aF];omega)
 refine⟨r,sX (by decide) (by decide) (by decide) K,?_⟩;rcases J with⟨e0,e1,e2⟩|⟨u,cells,ex,h1,F,h3,Z,Y,N⟩
 .have:l=[]:=by simpa using e0
  subst this;exact⟨none,⟨rfl,.inl ⟨e1,rfl,rfl⟩⟩,λ f e=>(by cases e),D,A⟩
 rw[aF]at F Y;have L:cells=cT l:=OL N;subst L;exact⟨some u,⟨by rw[wT];omega,.inr ⟨u,_,F,⟨h3,rfl,_,Z⟩,rfl,by grind,by grind[List.take_of_length_le],rfl⟩⟩,λ f e=>(by cases e;exact h1),D,A⟩
theorem atA(k:Nat):acJ (iv ng (k+1)):=λ H n g h=>by obtain⟨r,D,A⟩:=an5 (ng:=ng) (Z7:=iv ng k) g h;grind[sX]
theorem aka(k:Nat)(h:cn G (dA []) H){l:List El}(D:l.length<=1000)(A:bB ρ0 G.I [.sl (l.map El.c) none] xs):kr 0 G [] H (iv ng (k+1) 51 xs H) (iP l) [] false:=by obtain⟨r,J,F⟩:=alA (ng:=ng) h D A (yW (ng:=ng) k);grind[sX]
theorem ajT(k:Nat)(h:cn G (dA []) H)(D:l.length<=1000)(A:bB ρ0 G.I [aD l] xs):kr 0 G [] H (iv ng (k+1) 82 xs H) (fk l) [] false:=by obtain⟨r,J,F⟩:=amB (ng:=ng) h D A (yW (ng:=ng) k);grind[sX]
theorem aAb(L:cu I H.objs.get){a:List Int}(ha:a.length<=2000)(hb:b.length<=2000)(h:RP I (.sl [[aD a],[aD b]] none) s):EG H.objs.get s [a,b]:=by
 obtain⟨h1,cs,F,h3,h4,h5⟩:=H5 h (sz:=1) (λ e he=>by grind[List.mem_singleton]) L
 simp only[bR,cE]at h4;obtain⟨_,⟨N,ac,e1,r1,rfl⟩,_,⟨M,ab,e2,r2,rfl⟩,e3⟩:=h4
 have K:cs=[N,M]:=by
  match cs,h3 with
  |[x,y],_=>grind[List.cons.injEq]
 subst K;simp only[RP]at h;rcases h with⟨h0,_⟩|⟨v,off,A,r,sz,k1,Z,k3,D,Y⟩
 .cases h0
 have J:sz=1:=by simp only[bR]at Y;exact Y.1.symm
 subst J;refine⟨[N,M],⟨rfl,.inr ⟨v,off,A,r,k1,L _ _ Z,D,?_⟩⟩,λ i z c hz hc=>?_⟩;.subst k1;have D:off+2<=r.cells.length:=D;have F:eR H.objs.get 1 2 (.slice v off 2 A)=some [N,M]:=F;simp only[eR,b9 (be 2),xF,bq,L _ _ Z,b9 D]at F;exact dU F
 grind[aes]
def rZ.f'{H:ah}(h:rZ H fm):kM H fm:=h.f
def apz(k:Nat)(h:cn G (dA []) H){a:List Int}(Y:a.length<=1000)(N:b.length<=1000)(J:bB ρ0 G.I [.sl [[aD a],[aD b]] none] xs):kr 0 G [] H (iv ng (k+2) 57 xs H) (aD (a++b)) [] false:=by
 obtain⟨s,rfl,D⟩:=Jj J;have D:RP G.I (.sl [[aD a],[aD b]] none) s:=by simpa only[aA]using D
 obtain⟨r,F,fm,h3,M,L,K⟩:=ath (ng:=ng) (atA (ng:=ng) k) h.gd (aAb h.fJ (by omega) (by omega) D) (by show 2<=2000;decide) (by simp;omega);rw[sX (by decide) (by decide) (by decide) F];have A:[a,b].flatten=a++b:=by simp
 rw[A]at h3;exact Z0 h L M (DQ (yW (ng:=ng) (k+1)) F) h3 K.f
theorem anp{tn:aS}(h:bB ρ0 I [.agg [.sl tn none,.sl te none],eI a] xs):∃A D,xs=[.agg [A,D],.int .i64 a]/\RP I (.sl tn none) A/\RP I (.sl te none) D/\A.eh=true/\D.eh=true:=by obtain⟨c,cs,rfl,M,Z⟩:=cf.1 h;obtain⟨c2,ad,rfl,h3,L⟩:=cf.1 Z;simp only[bB]at L;subst L;simp only[aA]at M h3;obtain⟨_,bs,rfl,Y⟩:=M;obtain⟨A,ac,rfl,K,N⟩:=cf.1 Y;obtain⟨D,ab,rfl,J,F⟩:=cf.1 N;simp only[bB]at F;subst F;have o1:=vp K rfl;have o2:=vp J rfl;simp only[aA]at K J;grind
theorem aA2(k:Nat){K:ah}(g:Good K)(h:cj K 1 l.length s (cT l) fm)(A:l.length<=1000):∃r,iv ng (k+1) 231 [s] K=some r/\cj r.2 1 l.length s (cT l.reverse) fm/\Fr fm K r.2/\Good r.2:=by obtain⟨r,F,D⟩:=aoK (ng:=ng) (Z7:=iv ng k) g h A;grind[sX]
def aza{l:List aa}{H:ah}:ir af Z7 231 l H=Z7 231 l H:=by simp only[ir,Tryz.func231];rfl
theorem ayE(k:Nat)(A:cn G (dA []) H){tn:aS}(J:Cv tn){a:Nat}(M:a<tn.length)(K:bB ρ0 G.I [.agg [.sl tn none,.sl te none],eI a] xs):kr 0 G [] H (iv ng (k+2) 177 xs H) (aD (jf tn (a+1) a).reverse) [] false:=by obtain⟨Y,Z,rfl,N,h2,F,D⟩:=anp K;obtain⟨r,h3,h4,h5,fm,h6,h7⟩:=apO (ng:=ng) (Z7:=iv ng (k+1)) A.gd A.fJ J N F D M (λ f args H e=>by subst e;exact aza) (λ g h L=>aA2 k g h L);rw[sX (by decide) (by decide) (by decide) h3];grind[List.length_reverse,Z0,DQ,yW]
theorem aiZ(k:Nat)(h:cn G (dA []) H)(J:l.length<=1000)(F:bB ρ0 G.I [aD l] xs):kr 0 G [] H (iv ng (k+2) 263 xs H) (eI ((Lib.compact (mH l)).length:Int)) [] false:=by
 obtain⟨s,rfl,A⟩:=Jj F;have A:RP G.I (aD l) s:=by simpa only[aA]using A
 obtain⟨r,D,h3,L,K⟩:=avL (ng:=ng) h.gd h.fJ A J (aun (ng:=ng) k) (arn k) (akj k);rw[sX (by decide) (by decide) (by decide) D];obtain⟨v,H'⟩:=r;simp only at h3;subst h3;refine Ip h K L (DQ (yW (ng:=ng) (k+1)) D) (by simp[aA,lX]) λ j es sz c e M=>?_
 grind[ae.cells]
open Classical in
noncomputable def AP(j:Nat):cI:=λ f args S=>match args with
 |[.agg [.sl tn none,.sl _ none],.sc (.int .i64 a)]=>if f=162/\ta tn/\a<tn.length/\a+1<j/\j<=1000/\ -1<=a then some (.sl (eA tn j a) (some 4),S,false)else none
 |_=>none
theorem axJ{tn:aS}(A:ta tn)(J:a<tn.length)(h:a+1<j)(F:j<=1000)(D: -1<=a):AP j 162 [.agg [.sl tn none,.sl te none],eI a] S=some (.sl (eA tn j a) (some 4),S,false):=by grind[AP]
theorem IU{f:Nat}{args:List ae}{A:List bI}{v:ae}{dt:Bool}(h:AP j f args S=some (v,A,dt)):∃tn te a,f=162/\args=[.agg [.sl tn none,.sl te none],eI a]/\ta tn/\a<tn.length/\a+1<j/\(j<=1000/\ -1<=a)/\v=.sl (eA tn j a) (some 4)/\A=S/\dt=false:=by unfold AP at h;grind
theorem anf:∀fn c,Tryz.prog.funcs[162]? =some fn->fn.body=some c->rA 3 8 c=true:=by grind[ahH,acb]
theorem adt{gl:aM}(L:mz ng gl (AP j) (iv ng j)){tn te:aS}(h:ta tn)(h1:a<tn.length)(h2:a+1<(j+1:Nat))(h3:j+1<=1000)(M:cn G (dA []) H)(Y:kJ ng gl G)(hr:bB ρ0 G.I [.agg [.sl tn none,.sl te none],eI a] xs):
 kr 0 G [] H (iv ng (j+1) 162 xs H) (.sl (eA tn (j+1) a) (some 4)) [] false:=by
 have Z:=ays (gl:=gl) (Z7:=AP j) (te:=te) h (f:=j) (by omega) h1 (λ h0 S=>by
  have hi:a.toNat<tn.length:=by omega
  obtain⟨c0,p,c2,l,e,p1,p2,_⟩:=h.2 _ hi;grind[jc,axJ]) []
 obtain⟨m,N⟩:=azF (pol:=λ _=>acd) (k:=8) (id0:=3) acb Z;obtain⟨x,H',G',K,J,F,D,A⟩:=auV (dt:=false) (G:=G) (H:=H) L N anf rfl M Y (xs0:=xs) (by grind[ZN]) (λ d k e=>by rw[EI]at e;cases e);refine⟨x,H',G',?_,J,F,D,A⟩;exact Sd (alb K)
theorem csA{gl:aM}:∀j,mz ng gl (AP j) (iv ng j)
 |0=>⟨λ f args S v D dt h=>by
  grind[IU],λ f args S v D dt h A=>by
  grind[IU]⟩
 |j+1=>by
  have L:=csA (gl:=gl) j;refine⟨λ f args S v D dt h A M=>?_,λ f args S v D dt h A=>?_⟩;.obtain⟨tn,te,a,rfl,rfl,F,K,J,h3,rfl,rfl,rfl⟩:=IU h;grind[adt]
  obtain⟨tn,te,a,rfl,rfl,F,K,J,h3,rfl,rfl,rfl⟩:=IU h;cases A
theorem ali(k:Nat){gl:aM}(h:cn G (dA []) H)(J:kJ ng gl G){tn:aS}(A:ta tn){a:Nat}(L:a<tn.length)(K:a+1<k)(F:k<=999)(D:bB ρ0 G.I [.agg [.sl tn none,.sl te none],eI a] xs):
 kr 0 G [] H (iv ng (k+1) 162 xs H) (.sl (eA tn (a+1) a) (some 4)) [] false:=by
 have:=adt (csA (ng:=ng) (gl:=gl) k) A (a:=a) (by omega) (by omega) (by omega) h J D;grind[agB]
end
section
open Go.Proofs
variable{ng:Nat}{gl:aM}{I:Im}{H K K':ah}
def AN(I:Im):Gh:=⟨λ _ _=>none,I,λ _=>none,λ _=>0⟩
def vs0(g:Good K)(h:cu I K.objs.get):cn (AN I) (dA []) K where
 gd:=g
 fJ:=h
 box:=λ d k cs e=>by rw[yh]at e;cases e
 inj:=λ d k F D cs A u e=>by rw[yh]at e;cases e
 aC:=λ f s e=>by cases e
 lq:=λ d k u e=>by cases e
end
section
open Go.Proofs
variable{o:List El}
variable{gl:aM}{base:eH}
def yR(r:RU)(h:List Int)(ev:Int)(p:Ed×Nat)(o:List El):Option (List El⊕bZ):=
 if o.length<=2000 then
  if fW r.iE p.2 then some (.inl o)else
  match df h p.1.fr,df h p.1.to with
  |some a,some b=>some (.inl (o++[⟨true,p.1.ty,a,b,ev⟩]))
  |_,_=>none
 else none
def vU(N:aT)(x:Oc)(ev fr:Int):Option (List El):=match df N.R x.ru with
 |some r=>(match bP (xI r x ev fr) r.rN.zipIdx ([],[])with
  |some (.inl s)=>(match bP (yR r s.2 ev) r.rE.zipIdx s.1 with|some (.inl o)=>some o|_=>none)
  |_=>none)
 |none=>none
def apH{r:RU}(hR:Hy r){ev:Int}{A:List Int}(ab:r.rE.length<=1000)(ac:r.iE.length<=1000){s:List El}(h:bP (yR r A ev) r.rE.zipIdx o=some (.inl s)):
 aJ af gl (VW gl base) 104 JJ [(2,eI ev),(9,.ptr S.length 9 0),(10,iP o),(11,fk A),(72,dY r.rE),(73,eI r.rE.length),(74,eI 0)] (aH [(9,r.c)] S)=some (.exit 2,[(2,eI ev),(9,.ptr S.length 9 0),(10,iP s),(11,fk A),(72,dY r.rE),(73,eI r.rE.length),(74,eI r.rE.length),(75,eB false)],(aH [(9,r.c)] S)):=by
 have hL:=pg (P:=af) (gl:=gl) (Z7:=VW gl base) (n:=104) (l:=r.rE.zipIdx) (C:=JJ) (B:=Cq) (f:=yR r A ev)
  (TT:=λ i s=>[(2,eI ev),(9,.ptr S.length 9 0),(10,iP s),(11,fk A),(72,dY r.rE),(73,eI r.rE.length),(74,eI i)]) (ST:=λ _=>(aH [(9,r.c)] S))
  (X:=λ s=>(.exit 2,[(2,eI ev),(9,.ptr S.length 9 0),(10,iP s),(11,fk A),(72,dY r.rE),(73,eI r.rE.length),(74,eI r.rE.length),(75,eB false)],(aH [(9,r.c)] S))) ?_ ?_ ?_ o _ h
 .exact hL
 .intro i s;rw[ajC];simp+decide only[VB,lk,aB,↓reduceIte,Nat.reduceBEq,Nat.reduceAdd]
 .intro i s p hi Z;rw[rP]at hi;have G:∀d k,iJ d k r.c=true:=λ d k=>Lx hR.d
  have D:((i:Int)<(r.rE.length:Int))=True:=dw (by omega);have F:r.rE[i]? =some r.rE[i]:=cW hi;have N:p=(r.rE[i],i):=by rw[Eu,F]at Z;simpa using Z.symm
  subst N;have he:(r.rE.map Ed.c)[i]? =some (r.rE[i]).c:=by rw[bM,F];rfl
  unfold yR;by_cases Y:s.length<=2000
  .rw[ao Y];have K:∀S,VW gl base 8 [aD r.iE,eI (i:Int)] S=some (eB (fW r.iE i),S,false):=λ S=>uZ (by omega)
   cases hh:fW r.iE (i:Int)
   .simp only[rI,qv];cases h2:df A (r.rE[i]).fr;.trivial
    rename_i a;cases h3:df A (r.rE[i]).to;.trivial
    rename_i b;obtain⟨u,e1,hu⟩:=jU h2;obtain⟨v,e2,hv⟩:=jU h3;have M:(A.map λ n=>[eI n])[u]? =some [eI a]:=by rw[bM,hu];rfl
    have L:(A.map λ n=>[eI n])[v]? =some [eI b]:=by rw[bM,hv];rfl
    have J:∀st,iG st 5 (iP s) (.sl [[eB true,eI (r.rE[i]).ty,eI a,eI b,eI ev]] (some 5))=some (iP (s++[⟨true,(r.rE[i]).ty,a,b,ev⟩])):=λ st=>by
     have e:(ae.sl (s.map El.c++[[eB true,eI (r.rE[i]).ty,eI a,eI b,eI ev]]) (some 5))=iP (s++[⟨true,(r.rE[i]).ty,a,b,ev⟩]):=by simp[El.c]
     rw[<-e];exact lZ (by simp only[aF,cD,dG];omega) rfl
    simp+decide only[Cq,VB,lk,aB,↓reduceIte,Nat.reduceBEq,Nat.reduceAdd,IP,SR,P0,X4,PQ,D,aY he,Ed.c,RU.g14,G,aI mU,K,hh,e1,e2,aY M,aY L,fD,fM,fO,ft,fo,eM,cm,dh,dC,dW,cM,J,gW (show i<=4611686018427387904 by omega)]
   simp only[jz];simp+decide only[Cq,VB,lk,aB,↓reduceIte,Nat.reduceBEq,Nat.reduceAdd,IP,SR,P0,PQ,D,aY he,Ed.c,RU.g14,G,aI mU,K,hh,gW (show i<=4611686018427387904 by omega)]
  rw[aj Y];trivial
 .intro s;refine⟨?_,λ h=>by cases h⟩;rw[rP];simp+decide only[Cq,VB,lk,aB,↓reduceIte,Nat.reduceBEq,Nat.reduceAdd,IP,jT]
def w81{N:aT}{S:List bI}{a b c:Option Nat}(hN:b7 S d k=some (N.c a b c)){x:Oc}{ev fr:Int}(hf:0<=fr/\fr<=1000000)(hR:∀r∈N.R,Hy r/\r.rN.length<=1000/\r.iN.length<=1000/\r.rE.length<=1000/\r.iE.length<=1000)(h:vU N x ev fr=some o):
 VW gl base 93 [.ptr d k 0,.agg x.c,eI ev,eI fr] S=some (.sl (o.map El.c) none,S,false):=by
 have ab:=cY hN;have hd:(d=S.length)=False:=b6 (by omega);have gb:(d==S.length)=false:=by simp;omega
 have Y:(S.length==d)=false:=by simp;omega
 unfold vU at h;split at h
 .rename_i r Z;obtain⟨i,e1,hi⟩:=jU Z;have L:(N.R.map RU.c)[i]? =some r.c:=by rw[bM,hi];rfl
  obtain⟨G,h2,h3,h4,h5⟩:=hR r (ni Z);have J:∀d k,iJ d k r.c=true:=λ d k=>Lx G.d
  split at h
  .rename_i s hs;split at h;.rename_i o' ho;cases h;have F:=atF (gl:=gl) (base:=base) (S:=S) (x:=x) hf h2 h3 hs;have M:=apH (gl:=gl) (base:=base) (S:=S) G h4 h5 ho;refine jG m81 rfl rfl ?_;simp only[Oc.c,e1]at F;have D:(r.c.length==25)=true:=rfl;have A:r.c.length=25:=rfl;have K:jt true 25 r.c 0=some (.agg r.c):=RJ rfl;simp+decide only[bz,F81,VB,lk,aB,↓reduceIte,Nat.reduceBEq,Nat.reduceAdd,aar,acY,YD,WT,abf,adm,aaz,Oc.c,hd,gb,Y,hN,aT.c,e1,aY (sz:=25) L RU.len,K,J,RU.g6,RU.g7,G.s,G.k,D,A,aF,F,M]
   cases h
  cases h
 .cases h
end
section
open Go.Proofs
variable{a b:List ae}{bef:List (List Nat)}
variable{gl:aM}{base:eH}
def afH{ok:Nat->Bool}:∀{es:List (Nat×fq)} {up:Option Nat},(∀k,k<=es.length->ok k=true)->lH bef j ok es up=true
 |[],up,h=>by simp only[lH,h 0 (be _),rM]
 |e::es,up,h=>by have A:=h (es.length+1) (by simp);simp only[lH,A,rM,BF];exact afH λ k D=>h k (by simp;omega)
def je{b:Nat×Nat}{h:fq}{es:List (Nat×fq)}(G:(bef.getD i []).elem j=true)(F:xP b es=true)(h3:decide (m<=es.length)=true):lH bef j (yy (some b) m ((i,h)::es)) ((i,h)::es) none=true:=by
 have A:=jk h3;simp only[lH,G,rM,Em,BF];refine afH λ k D=>?_
 show iH b m k ((i,h)::es)=true;rw[aso A D];exact Ov F
def Qr:∀{F:bI},mN (mN F k a) k b=mN F k b
 |[]=>rfl
 |(i,v)::F=>by
  simp only[JS];by_cases h:i=k;.simp only[ao h,JS,Qr,↓reduceIte]
  simp only[aj h,JS,Qr]
def LC:∀{S:List bI},jv (jv S d k a) d k b=jv S d k b
 |[]=>rfl
 |F::S=>by
  by_cases h:d=S.length;.simp only[jv,ao h,Qr]
  simp only[jv,aj h,wi,LC]
def q81:cy af 93=true:=by kernel_rfl
def aT.add(N:aT)(x:Oc)(l:List El)(s:BitVec 64):aT:=⟨N.R,N.E++l,N.V++[x],N.C++[s]⟩
def w37(hB:kK base){N:aT}(hb:NB N){S:List bI}(G:b7 S d k=some (N.c (some 5) (some 3) (some 1)))(hR:∀r∈N.R,Hy r/\r.rN.length<=1000/\r.iN.length<=1000/\r.rE.length<=1000/\r.iE.length<=1000)
 (hE:N.E.length<=1000) (hV:N.V.length<=1000) (hC:N.C.length<=1000) {x:Oc} (K:x.no.length<=1000) (L:x.ed.length<=1000) {l:List El} (hl:vU N x N.V.length N.E.length=some l) (ac:l.length<=10000) {s:BitVec 64} (hs:sq N (gO x)=some s):
 VW gl base 46 [.ptr d k 0,.agg x.c] S=some (eB (decide (((N.E++l).length:Int)<=200)),jv S d k ((N.add x l s).c (some 5) (some 3) (some 1)),true):=by
 have ab:=cY G;have hd:(d=S.length)=False:=b6 (by omega);have gb:(d==S.length)=false:=by simp;omega
 have Z:(S.length==d)=false:=by simp;omega
 have M:(gO x).length<=1000000:=by unfold gO;rw[dM];omega
 have hG:∀A,b7 (jv S d k A) d k=some A:=λ A=>by rw[BZ,ao ⟨rfl,rfl⟩,G];rfl
 have h:=w81 (gl:=gl) (base:=base) (S:=[(3,x.c)]::S) (dm G) (by omega) hR hl;have D:∀S,VW gl base 27 [.agg x.c] S=some (aD (gO x),S,false):=λ S=>E8 hB K L
 have Y:b7 (jv S d k (N.c (some 5) (some 3) none)) d k=some (N.c (some 5) (some 3) none):=hG _;have F:=w74 (gl:=gl) (base:=base) (S:=[(3,x.c)]::jv S d k (N.c (some 5) (some 3) none)) (dm Y) M hs;have a1:∀st,iG st 1 (.sl (N.C.map λ x=>[eW x]) (some 1)) (.sl [[eW s]] (some 1))=some (.sl ((N.C++[s]).map λ x=>[eW x]) (some 1)):=λ st=>by rw[lZ (by simp only[aF,cD,dG];omega) rfl];simp
 have a2:∀st,iG st 3 (.sl (N.V.map Oc.c) (some 3)) (.sl [[eI x.ru,aD x.no,aD x.ed]] (some 3))=some (.sl ((N.V++[x]).map Oc.c) (some 3)):=λ st=>by rw[lZ (by simp only[aF,cD,dG];omega) rfl];simp[Oc.c]
 have J:∀l:List El,fR 5 (l.map El.c)=true:=λ l=>by
  induction l with
  |nil=>rfl
  |cons y l ih=>exact ih
 have a3:∀st,iG st 5 (.sl (N.E.map El.c) (some 5)) (.sl (l.map El.c) none)=some (.sl ((N.E++l).map El.c) (some 5)):=λ st=>by rw[lZ (by simp only[aF];omega) (J l)];simp
 refine jG m37 rfl rfl ?_;simp only[Oc.c,aT.c]at h D F;simp+decide only[bz,F37,VB,lk,aB,↓reduceIte,Nat.reduceBEq,Nat.reduceAdd,afZ,V9,Zq,aeo,ab4,abT,Oc.c,hd,gb,Z,G,aT.c,aF,aI q81,h,aI Ab,D,aI Sj,F,fD,a1,a2,a3,wi,LC,hG,je,cm,dh,dC,dW,cM];rfl
end
section
open Go.Proofs
variable{gl:aM}{base:eH}
def vC(n:Int):El:=⟨false,n,0,0,-1⟩
def xh(x:Ed):El:=⟨true,x.ty,x.fr,x.to,-1⟩
def ah2{l:List El}{x:El}(h:l.length<=100000):∀st,iG st 5 (iP l) (.sl [x.c] (some 5))=some (iP (l++[x])):=λ st=>by
 have e:(ae.sl (l.map El.c++[x.c]) (some 5))=iP (l++[x]):=by simp
 rw[<-e];exact lZ (by simp only[aF,cD,dG];omega) rfl
def D9{α:Type}(g:α->El)(x:α)(o:List El):Option (List El⊕bZ):=if o.length<=10000 then some (.inl (o++[g x]))else none
def Q3{g:α->El}:∀{l:List α} {o:List El},o.length+l.length<=10000->bP (D9 g) l o=some (.inl (o++l.map g))
 |[],o,_=>by simp[bP]
 |x::l,o,h=>by simp only[cD]at h;simp only[bP,D9,ao (show o.length<=10000 by omega)];rw[Q3 (by simp only[dM,cD,dG];omega)];simp
def awG{Z7:cI}(h:lN.length<=1000):
 aJ af gl Z7 40 Ir [(1,.ptr 0 1 0),(3,.sl [] (some 5)),(9,aD lN),(10,eI lN.length),(11,eI 0)] (aH [(1,[aD lN,dY lE])] [])=some (.exit 0,[(1,.ptr 0 1 0),(3,iP (lN.map vC)),(9,aD lN),(10,eI lN.length),(11,eI lN.length),(12,eB false)],(aH [(1,[aD lN,dY lE])] [])):=by
 have K:=pg (P:=af) (gl:=gl) (Z7:=Z7) (n:=40) (l:=lN) (C:=Ir) (B:=HG) (f:=D9 vC)
  (TT:=λ i s=>[(1,.ptr 0 1 0),(3,iP s),(9,aD lN),(10,eI lN.length),(11,eI i)]) (ST:=λ _=>(aH [(1,[aD lN,dY lE])] []))
  (X:=λ s=>(.exit 0,[(1,.ptr 0 1 0),(3,iP s),(9,aD lN),(10,eI lN.length),(11,eI lN.length),(12,eB false)],(aH [(1,[aD lN,dY lE])] []))) ?_ ?_ ?_ [] _ (Q3 (by rw[dG];omega))
 .exact K
 .intro i s;rw[amL];simp+decide only[VB,lk,aB,↓reduceIte,Nat.reduceBEq,Nat.reduceAdd]
 .intro i s p hi G;have A:((i:Int)<(lN.length:Int))=True:=dw (by omega);have J:(lN.map λ n=>[eI n])[i]? =some [eI p]:=by rw[bM,G];rfl
  unfold D9;by_cases F:s.length<=10000;.rw[ao F];have D:=ah2 (x:=vC p) (l:=s) (by omega);simp only[vC,El.c]at D;simp+decide only[HG,VB,lk,aB,↓reduceIte,Nat.reduceBEq,Nat.reduceAdd,Pe,Wy,ahP,ahq,A,aY J,fD,fM,fO,ft,fo,eM,cm,dh,dC,dW,cM,D,vC,gW (show i<=4611686018427387904 by omega)]
  rw[aj F];trivial
 .intro s;refine⟨?_,λ h=>by cases h⟩;simp+decide only[HG,VB,lk,aB,↓reduceIte,Nat.reduceBEq,Nat.reduceAdd,Pe,jT]
def anH{Z7:cI}{o:List El}(h:o.length+lE.length<=10000):
 aJ af gl Z7 40 MH [(3,iP o),(22,dY lE),(23,eI lE.length),(24,eI 0)] (aH [] [])=some (.exit 2,[(3,iP (o++lE.map xh)),(22,dY lE),(23,eI lE.length),(24,eI lE.length),(25,eB false)],(aH [] [])):=by
 have K:=pg (P:=af) (gl:=gl) (Z7:=Z7) (n:=40) (l:=lE) (C:=MH) (B:=FE) (f:=D9 xh)
  (TT:=λ i s=>[(3,iP s),(22,dY lE),(23,eI lE.length),(24,eI i)]) (ST:=λ _=>(aH [] []))
  (X:=λ s=>(.exit 2,[(3,iP s),(22,dY lE),(23,eI lE.length),(24,eI lE.length),(25,eB false)],(aH [] []))) ?_ ?_ ?_ o _ (Q3 h)
 .exact K
 .intro i s;rw[aph];simp+decide only[VB,lk,aB,↓reduceIte,Nat.reduceBEq,Nat.reduceAdd]
 .intro i s p hi G;have A:((i:Int)<(lE.length:Int))=True:=dw (by omega);have J:(lE.map Ed.c)[i]? =some p.c:=by rw[bM,G];rfl
  unfold D9;by_cases F:s.length<=10000;.rw[ao F];have D:=ah2 (x:=xh p) (l:=s) (by omega);simp only[xh,El.c]at D;simp+decide only[FE,VB,lk,aB,↓reduceIte,Nat.reduceBEq,Nat.reduceAdd,Pz,abE,aax,ac7,A,aY J,Ed.c,fD,fM,fO,ft,fo,eM,cm,dh,dC,dW,cM,D,xh,gW (show i<=4611686018427387904 by omega)]
  rw[aj F];trivial
 .intro s;refine⟨?_,λ h=>by cases h⟩;simp+decide only[FE,VB,lk,aB,↓reduceIte,Nat.reduceBEq,Nat.reduceAdd,Pz,jT]
def fc(lN:List Int)(lE:List Ed):List El:=lN.map vC++lE.map xh
def w32{lN:List Int}{lE:List Ed}(h:lN.length<=1000)(A:lE.length<=1000):VW gl base 41 [.agg [aD lN,dY lE]] S=some (iP (fc lN lE),S,false):=by refine iU (S':=[]) (w:=false) m32 rfl rfl ?_;have D:=awG (gl:=gl) (Z7:=VW gl base) (lN:=lN) (lE:=lE) h;have A:=anH (gl:=gl) (Z7:=VW gl base) (lE:=lE) (o:=lN.map vC) (by rw[aF];omega);simp+decide only[bz,F32,VB,lk,aB,↓reduceIte,Nat.reduceBEq,Nat.reduceAdd,aa1,aeh,ad3,adj,aac,aF,D,A];rfl
end
section
open Go.Proofs
variable{gl:aM}{base:eH}
abbrev qy(l:List Oc):ae:=.sl (l.map Oc.c) (some 3)
def apj{l:List Oc}{x:Oc}(h:l.length<=1000000000):∀st,iG st 3 (qy l) (.sl [x.c] (some 3))=some (qy (l++[x])):=λ st=>by
 have e:(ae.sl (l.map Oc.c++[x.c]) (some 3))=qy (l++[x]):=by simp
 rw[<-e];exact lZ (by simp only[aF,cD,dG];omega) rfl
def yj(N:aT)(x:Oc):Option Bool:=if sO N x then some false else rF N x
def J7:cy af 44=true:=by kernel_rfl
def O2:cy af 45=true:=by kernel_rfl
def w34(hB:kK base)(hT:nD gl base){N:aT}(hb:NB N){S:List bI}{a b c:Option Nat}(hN:b7 S d k=some (N.c a b c))(hV:N.V.length<=1000000)(hn:b7 S p q=some [.ptr d k 0])(hf:b7 S p2 q2=some [qy fr])(ac:fr.length<=1000000000)
 {x:Oc} (M:x.no.length<=1000) (Y:x.ed.length<=1000) {z:Bool} (h:yj N x=some z):
 VW gl base 43 [.agg x.c,.ptr p q 0,.ptr p2 q2 0] S=some (.aL [],(if z then jv S p2 q2 [qy (fr++[x])]else S),z):=by
 have hd:(d=S.length)=False:=b6 (by have:=cY hN;omega);have G:(p=S.length)=False:=b6 (by have:=cY hn;omega);have F:(p2=S.length)=False:=b6 (by have:=cY hf;omega);have L:(p==S.length)=false:=by have:=cY hn;simp;omega
 have K:(p2==S.length)=false:=by have:=cY hf;simp;omega
 have D:=w35 (gl:=gl) (base:=base) (S:=[(3,x.c)]::S) (dm hN) hV M Y;have hG:∀A,b7 (jv S p2 q2 A) p2 q2=some A:=λ A=>by rw[BZ,ao ⟨rfl,rfl⟩,hf];rfl
 have ab:=apj (x:=x) (l:=fr) ac;unfold yj at h;refine jG m34 rfl rfl ?_;split at h;.rename_i Z;cases h;rw[Z]at D;simp only[Oc.c]at D;simp+decide only[bz,IE,VB,lk,aB,↓reduceIte,Nat.reduceBEq,Nat.reduceAdd,Na,KC,Oc.c,hd,G,F,L,K,hn,aI J7,D];rfl
 .rename_i Z;have Z:sO N x=false:=by simpa using Z
  rw[Z]at D;have J:=w36 (gl:=gl) (base:=base) (S:=[(3,x.c)]::S) hB hT hb (dm hN) M Y h;simp only[Oc.c]at D J ab;cases z;.simp+decide only[bz,IE,VB,lk,aB,↓reduceIte,Nat.reduceBEq,Nat.reduceAdd,Na,KC,Og,Oc.c,hd,G,F,L,K,hn,aI J7,D,aI O2,J];rfl
  simp+decide only[bz,IE,VB,lk,aB,↓reduceIte,Nat.reduceBEq,Nat.reduceAdd,Na,KC,Og,Oc.c,hd,G,F,L,K,hn,hf,aI J7,D,aI O2,J,fD,ab,wi,LC,hG];rfl
end
section
open Go.Proofs
variable{k:IntKind}
variable{gl:aM}{base:eH}
def anG(s:BitVec 64): -s= ~~~(s- 1#64):=by apply Ep;rw[BitVec.toNat_neg,BitVec.toNat_not,Vy];have h:=s.isLt;show(2^64-s.toNat)%2^64=2^64- 1-(2^64- 1+s.toNat)%2^64;omega
def ar0{s:BitVec 64}{t:Nat}(h:s≠0#64)(e:s.toNat=2^(t+1)*m+2^t)(F:t<64):s&&& -s=1#64<<<t:=by
 have L:s.toNat≠0:=λ e=>h (Ep e)
 have G:=s.isLt;have K:(s- 1#64).toNat=s.toNat- 1:=by rw[Vy];show(2^64- 1+s.toNat)%2^64=_;omega
 apply BitVec.eq_of_getLsbD_eq;intro i hi;rw[anG,BitVec.getLsbD_and,BitVec.getLsbD_not,BitVec.getLsbD_shiftLeft];have a1:s.getLsbD i=s.toNat.testBit i:=rfl;have a2:(s- 1#64).getLsbD i=(s- 1#64).toNat.testBit i:=rfl;rw[a1,a2,K,e,QC,acv];by_cases A:i<t+1
 .rw[ao A,ao A];by_cases D:t=i;.subst D;simp[F]
  have:i<t:=by omega
  simp[D,this]
 rw[aj A,aj A];have:¬i<t:=by omega
 have h3:(1#64).getLsbD (i-t)=false:=by have:(1#64).getLsbD (i-t)=(1:Nat).testBit (i-t):=rfl;rw[this];obtain⟨k,J⟩:∃k,i-t=k+1:=⟨i-t- 1,by omega⟩;rw[J,Nat.testBit_succ];simp
 rw[h3];simp;exact λ a _=>a
def Oi:List Nat:=[0,1,56,2,57,49,28,3,61,58,42,50,38,29,17,4,62,47,59,36,45,43,51,22,53,39,33,30,24,18,12,5,63,55,48,27,60,41,37,16,46,35,44,21,52,32,23,11,54,26,40,15,34,20,31,10,25,14,19,9,13,8,7,6]
def axE:∀t:Fin 64,Oi[(((1#64<<<t.val)*285870213051353865#64)>>>58).toNat]? =some t.val:=by decide
def cCv(st:aq)(k:IntKind):ae->Option VR
 |.sc (.int _ n)=>some ⟨.sc (.int k (k.wrap n)),[],st,.pure⟩
 |_=>none
def afB{h:IntKind}{n:Int}:cCv st k (.sc (.int h n))=some ⟨.sc (.int k (k.wrap n)),[],st,.pure⟩:=rfl
def ag4{Z7:cI}{T:VT}{d:Option Tmp}{x:bu}:aN P gl Z7 T st d (.cv k x)=oB (bh gl T x) λ v=>cCv st k v:=by
 simp only[aN];cases bh gl T x;.rfl
 rename_i v;cases v with
 |sc a=>cases a<;>rfl
 |_=>rfl
def e64(n:Int):IntKind.wrap .u64 n=n%18446744073709551616:=rfl
def auI{b:BitVec 64}:dn af .mul t (eW a) (eW b)=some (eW (a*b)):=by
 show some (ae.sc (.int .u64 (IntKind.wrap .u64 ((a.toNat:Int)*(b.toNat:Int)))))=_;refine dc (λ z=>some (ae.sc (.int .u64 z))) ?_;rw[e64,BitVec.toNat_mul,Int.natCast_emod,Int.natCast_mul]
 try rfl
def asM(h:n<64):dn af .shr t (eW a) (.sc (.int .u64 (n:Int)))=some (eW (a>>>n)):=by
 rw[nw];have:Op.shift .shr .u64 (a.toNat:Int) .u64 (n:Int)=pure (.int .u64 ((a.toNat:Int).fdiv (2^(min (n:Int).toNat IntKind.u64.bits)))):=by unfold Op.shift;rw[aj (by omega)]
 show(match qo (Op.shift .shr .u64 (a.toNat:Int) .u64 (n:Int))with|some r=>kx r|none=>none)=_;rw[this];show some (ae.sc (.int .u64 _))=_
 congr 3
 rw[VE,Vo,Eo,show min n IntKind.u64.bits=n from Nu (Nat.le_of_lt h),aiH _ (Int.le_of_lt (Int.pow_pos (by decide))),Int.natCast_ediv,Int.natCast_pow];rfl
def aj0:vg .neg (eW a)=some (eW (-a)):=by
 show some (ae.sc (.int .u64 (IntKind.wrap .u64 (0-(a.toNat:Int)))))=_;rw[e64];have h:=a.isLt
 congr 3
 rw[BitVec.toNat_neg];omega
def ayN{cs:List ae}(h:i<64){kd:IntKind}:mP none (some (64,1)) (.rp cs 0) (.sc (.int kd (i:Int)))=some (.rp cs i):=by show(if i<64 then some (ae.rp cs (0+i*1))else none)=_;rw[ao h,iX,xF]
def atO(a:BitVec 64):(a>>>58).toNat<64:=by rw[VE,Vo];have:=a.isLt;omega
abbrev zV:List ae:=Oi.map λ n:Nat=>.sc (.int .u8 (n:Int))
def AE(gl:aM):Prop:=gl 0=some zV
def asx:∀u:Fin 64,IntKind.wrap .i64 (u.val:Int)=(u.val:Int):=by decide
def Yg(hg:AE gl):nD gl base:=by
 intro s t l M S;have h0:s≠0#64:=λ e=>by subst e;rw[PT]at M;cases M
 obtain⟨t',m,e,hb,N⟩:=Ry h0;rw[hb]at M;cases M;have ha:=ar0 h0 e N;have Y:¬(s.toNat:Int)=0:=λ e=>h0 (Ep (by show s.toNat=0;omega))
 have F:dn af .mul 52 (eW (1#64<<<t)) (.sc (.int .u64 285870213051353865))=some (eW ((1#64<<<t)*285870213051353865#64)):=by have h:=auI (t:=52) (a:=1#64<<<t) (b:=285870213051353865#64);rw[show eW 285870213051353865#64=.sc (.int .u64 285870213051353865)from dc (λ z=>ae.sc (.int .u64 z)) (show((285870213051353865#64).toNat:Int)=285870213051353865 by decide)]at h;exact h
 have A:dn af .shr 52 (eW ((1#64<<<t)*285870213051353865#64)) (.sc (.int .u64 58))=some (eW (((1#64<<<t)*285870213051353865#64)>>>58)):=asM (n:=58) (by omega);have D:=axE ⟨t,N⟩;have Z:=asx ⟨t,N⟩;simp only at D Z;have G:=atO ((1#64<<<t)*285870213051353865#64);generalize((1#64<<<t)*285870213051353865#64)>>>58=q at A D G;generalize(1#64<<<t)*285870213051353865#64=q2 at F A;have K:=ayN (cs:=zV) G (kd:=.u64);have J:zV[q.toNat]? =some (.sc (.int .u8 (t:Int))):=by rw[bM,D];rfl
 have L:∀T,bh gl T (.g 0)=some (.rp zV 0):=λ T=>by simp only[bh];rw[show gl 0=_ from hg]
 generalize zV=tv at K J L;refine iU (S':=[]) (w:=false) arX rfl rfl ?_;simp+decide only[bz,ahI,VB,lk,aB,↓reduceIte,Nat.reduceBEq,Nat.reduceAdd,Wi,Xe,Zp,adK,b6 Y,aj0,af9,ha,F,A,L,K,J,ag4,afB,Z]
end
section
open Go.Proofs
variable{d k:Int}{o:List Int}{p q:α->Option Bool}{s:BitVec 64}
theorem Hl{l:List α}:df l (i:Int)=l[i]? :=by grind[df]
theorem tO{l m:List α}(h:l<+:m){x:α}(e:df l k=some x):df m k=some x:=by obtain⟨t,rfl⟩:=h;grind[df,List.getElem?_eq_some_iff,List.getElem?_append_left]
theorem Bq:∀{l:List α} {b:Bool},(∀x∈l,∀b,p x=some b->q x=some b)->jy p l=some b->jy q l=some b
 |[],b,_,h=>h
 |x::l,b,A,h=>by
  simp only[jy]at h⊢;split at h;.grind[List.mem_cons_self]
  .rename_i F;rw[A x (cS ..) _ F];exact Bq (λ y D=>A y (cz _ D)) h
  cases h
theorem aeE:∀{l:List α} {i:Nat} {b:Int},(∀x∈l,∀b,p x=some b->q x=some b)->lg p i l=some b->lg q i l=some b
 |[],i,b,_,h=>h
 |x::l,i,b,A,h=>by
  simp only[lg]at h⊢;split at h;.grind[List.mem_cons_self]
  .rename_i F;rw[A x (cS ..) _ F];exact aeE (λ y D=>A y (cz _ D)) h
  cases h
theorem Wn{f g:α->σ->Option (σ⊕bZ)}:∀{l:List α} {s:σ} {r:σ⊕bZ},(∀x∈l,∀s r,f x s=some r->g x s=some r)->bP f l s=some r->bP g l s=some r
 |[],s,r,_,h=>h
 |x::l,s,r,A,h=>by
  simp only[bP]at h⊢;split at h;.rename_i s' F;rw[A x (cS ..) _ _ F];exact Wn (λ y D=>A y (cz _ D)) h
  .grind[List.mem_cons_self]
  cases h
structure iD (N M:aT):Prop where
 r:N.R=M.R
 e:N.E<+:M.E
 v:N.V<+:M.V
 c:N.C<+:M.C
theorem iD.refl(N:aT):iD N N:=⟨rfl,rQ _,rQ _,rQ _⟩
def iD.trans{A B C:aT}(h:iD A B)(k:iD B C):iD A C:=⟨h.r.trans k.r,h.e.trans k.e,h.v.trans k.v,h.c.trans k.c⟩
theorem iD.add(N:aT)(x:Oc)(l:List El)(s:BitVec 64):iD N (N.add x l s):=⟨rfl,⟨_,rfl⟩,⟨_,rfl⟩,⟨_,rfl⟩⟩
variable{N M:aT}
theorem amw(h:iD N M)(e:sq N l=some s):sq M l=some s:=by
 unfold sq at e⊢;split at e
 .rename_i r G
  have:bP (Ag M) l 0#64=some (.inl r):=Wn (λ x _ s r A=>by
   unfold Ag at A⊢;split at A
   .rename_i y F;rw[tO h.e F];split at A
    .rename_i D;simp only[ao D];split at A;.rename_i c J;rw[tO h.c J];exact A
     cases A
    grind
   cases A) G
  rw[this];exact e
 cases e
theorem Ij(h:iD N M){x:Oc}(e:qW N x=some l):qW M x=some l:=by unfold qW at e⊢;rw[<-h.r];exact e
theorem azf(h:iD N M)(A:zf N e k=some b):zf M e k=some b:=by
 unfold zf at A⊢;split at A;.rename_i y D;rw[tO h.e D];exact A
 cases A
theorem au1(h:iD N M){f:Int}(A:ahead N e f=some b):ahead M e f=some b:=by
 unfold ahead at A⊢;split at A
 .rename_i x y F D;rw[tO h.v F,tO h.v D];simp only;split at A;.grind[Bq,azf,Ij]
  cases A
 cases A
theorem alp(h:iD N M){f:Int}(A:xd N e f=some b):xd M e f=some b:=by
 unfold xd at A⊢;split at A;.grind
 rename_i D;rw[aj D];split at A;.rename_i x y G F;rw[tO h.v G,tO h.v F];grind[Ij]
 cases A
theorem amA(h:iD N M){f:Int}(A:before N o f e=some b):before M o f e=some b:=by grind[before,au1]
theorem ready_mono(h:iD N M){f:Int}(A:ready N l o f=some b):ready M l o f=some b:=by grind[ready,Bq,amA]
theorem aeI(h:iD N M):∀{k:Nat} {o:List Int} {r:List Int×Bool},vA N l k o=some r->vA M l k o=some r
 |0,o,r,e=>by cases e
 |k+1,o,r,e=>by
  simp only[vA]at e⊢;split at e
  .rename_i D;rw[ao D];split at e
   .rename_i z F;rw[aeE (λ k _ b G=>ready_mono h G) F];simp only;split at e;.grind
    rename_i A;rw[aj A];split at e;.rename_i x J;exact aeI h e
    cases e
   cases e
  grind
theorem Xi(h:iD N M)(A:wk N s e=some b):wk M s e=some b:=by
 unfold wk at A⊢;split at A;.rename_i c D;rw[tO h.c D];grind[Bq,alp]
 cases A
theorem YJ(h:iD N M)(A:ux N s=some b):ux M s=some b:=by grind[ux,Bq,Xi,aeI]
theorem alq(h:iD N M){x:Oc}(A:xT N x e=some b):xT M x e=some b:=by
 unfold xT at A⊢;split at A;.rename_i y D;rw[tO h.v D];grind[Ij]
 cases A
theorem ajL(h:iD N M){x:Oc}(A:rF N x=some b):rF M x=some b:=by
 unfold rF at A⊢;split at A;.grind[amw,YJ,Bq,alq]
 cases A
theorem yO:∀{l:List α},jy p l=some false↔∀x∈l,p x=some false
 |[]=>by simp[jy]
 |x::l=>by
  simp only[jy];constructor
  .intro h;split at h;.cases h
   .rename_i D;intro y A;rcases ck.1 A with rfl|A
    .exact D
    exact yO.1 h y A
   cases h
  intro h;rw[h x (cS ..)];exact yO.2 λ y A=>h y (cz _ A)
theorem awj(h:iD N M){x:Oc}{c:Int}(G:c<=d){p:Int×Nat}(A:qD N lN x c p=some false):qD M lN x d p=some false:=by
 unfold qD at A⊢;split at A;.cases A
 rename_i J;rw[aj J];split at A;.cases A
 rename_i K;rw[aj (by omega)];split at A;.rename_i y kind D F;rw[tO h.e D,F];exact A
 cases A
theorem ayJ(h:iD N M){x:Oc}{c:Int}(G:c<=d){p:Int×Nat}(A:rk N lE x c p=some false):rk M lE x d p=some false:=by
 unfold rk at A⊢;split at A;.cases A
 rename_i J;rw[aj J];split at A;.cases A
 rename_i K;rw[aj (by omega)];split at A;.rename_i y kind D F;rw[tO h.e D,F];exact A
 cases A
theorem ayc(h:iD N M){x:Oc}{c:Int}(D:c<=d)(A:fits N x c=some true):fits M x d=some true:=by
 unfold fits at A⊢;rw[<-h.r];split at A;.cases A
 rename_i G;rw[aj G];split at A;.cases A
 rename_i F;rw[aj F];split at A;.grind[yO,awj,ayJ]
 cases A
end
section
open Go.Proofs
def Zd{f:α->σ->Option (σ⊕bZ)}:∀{l m:List α} {s s':σ},bP f l s=some (.inl s')->bP f (l++m) s=bP f m s'
 |[],m,s,s',h=>by cases h;rfl
 |x::l,m,s,s',h=>by
  simp only[bP,zC]at h⊢;split at h;.exact Zd h
  .cases h
  cases h
def QL{f:α->σ->Option (σ⊕bZ)}{I:σ->Prop}:∀{l:List α} {s s':σ},(∀x∈l,∀s s',I s->f x s=some (.inl s')->I s')->I s->bP f l s=some (.inl s')->I s'
 |[],s,s',_,hi,h=>by cases h;exact hi
 |x::l,s,s',A,hi,h=>by
  simp only[bP]at h;split at h;.rename_i G F;exact QL (λ y D=>A y (cz _ D)) (A x (cS ..) _ _ hi F) h
  .cases h
  cases h
theorem Km{N:aT}{x:Oc}{ev fr:Int}{l:List El}(h:vU N x ev fr=some l):∀y∈l,y.ev=ev:=by
 unfold vU at h;split at h
 .rename_i r J;split at h
  .rename_i s A;have G:∀y∈s.1,y.ev=ev:=QL (I:=λ s:MS=>∀y∈s.1,y.ev=ev) (λ p _ s s' hi F=>by grind[xI,List.mem_singleton]) (by simp) A
   split at h;.rename_i o D;cases h;exact QL (I:=λ s:List El=>∀y∈s,y.ev=ev) (λ p _ s s' hi F=>by grind[yR,List.mem_singleton]) G D
   cases h
  cases h
 cases h
structure zg (r:RU):Prop where
 ln:r.lN.length<=2
 le:r.lE.length<=2
 ee:∀e∈r.lE,0<=e.fr/\e.fr<r.lN.length/\0<=e.to/\e.to<r.lN.length
 kn:∀k∈r.kN,0<=k/\k<r.lN.length
 ik:r.iN.length<=r.kN.length
 rn:r.rN.length<=10
 re:r.rE.length<=10
 rr:∀e∈r.rE,0<=e.fr/\e.fr<r.rN.length/\0<=e.to/\e.to<r.rN.length
 ke:r.kE.length<=1000
 ie:r.iE.length<=1000
 kl:r.kN.length<=1000
 rc:Hy r
structure qL (N:aT) (x:Oc):Prop where
 us:∀k∈gO x,0<=k/\k<N.E.length
 ru:∃r,df N.R x.ru=some r/\x.no.length=r.lN.length/\x.ed.length=r.lE.length
def BB(s:BitVec 64)(m:Nat):Prop:=∀i,s.toNat.testBit i=true->i<m
structure jV (N:aT):Prop where
 ro:∀r∈N.R,zg r
 cv:N.C.length=N.V.length
 vl:N.V.length<=30
 el:∀y∈N.E,y.ev<N.V.length
 oc:∀x∈N.V,qL N x
 ca:∀c∈N.C,BB c N.V.length
inductive nA (R:List RU) (E0:List El):aT->Prop where
 |nil:nA R E0 ⟨R,E0,[],[]⟩
 |add {N:aT} {x:Oc} {l:List El} {s:BitVec 64}:nA R E0 N->jV N->qL N x->fits N x N.E.length=some true->sO N x=false->rF N x=some true->vU N x N.V.length N.E.length=some l->sq N (gO x)=some s->(N.E++l).length<=200->nA R E0 (N.add x l s)
variable{R:List RU}{E0:List El}{N:aT}
theorem nA.aE(h0:∀y∈E0,y.ev= -1)(h:nA R E0 N):∀y∈N.E,y.ev<N.V.length:=by
 induction h with
 |nil=>grind
 | @add N x l s G _ _ _ _ _ F _ _ D=>
  intro y A;have A:y∈N.E++l:=A;show y.ev<((N.V++[x]).length:Int);grind[List.length_append,List.length_singleton,Km]
theorem nA.cut(h0:∀y∈E0,y.ev= -1)(h:nA R E0 N):∀{k:Nat},k<=N.V.length->∃M,nA R E0 M/\M.V=N.V.take k/\M.E=N.E.filter (λ y=>decide (y.ev<(k:Int))):=by
 induction h with
 |nil=>
  intro k D;have:k=0:=by simpa using D
  subst this;refine⟨_,.nil,rfl,?_⟩;grind[List.filter_eq_self,decide_eq_true]
 | @add N x l s Z b1 b2 a1 a2 a3 Y a4 a5 K=>
  intro k D;have D:k<=(N.V++[x]).length:=D;rw[dM,zH]at D;by_cases F:k<=N.V.length
  .obtain⟨M,J,m2,m3⟩:=K F;refine⟨M,J,?_,?_⟩;.show M.V=(N.V++[x]).take k;grind
   show M.E=(N.E++l).filter _;grind[decide,List.filter_eq_nil_iff,Km]
  have A:k=(N.V++[x]).length:=by grind[List.length_append,List.length_singleton]
  have G:nA R E0 (N.add x l s):=.add Z b1 b2 a1 a2 a3 Y a4 a5;refine⟨_,G,?_,?_⟩;.show N.V++[x]=(N.V++[x]).take k;rw[A,aiw]
  show(N.add x l s).E=(N.add x l s).E.filter _;rw[List.filter_eq_self.2];intro y L;have:=G.aE h0 y L;have e:(N.add x l s).V.length=k:=A.symm;exact dV (by omega)
def uX(N:aT)(x:Oc):Option (aT×Bool):=match vU N x N.V.length N.E.length,sq N (gO x)with
 |some l,some s=>some (N.add x l s,decide (((N.E++l).length:Int)<=200))
 |_,_=>none
open Classical in
noncomputable def r8(vE:List El)(x:Oc)(N:aT):Option (aT⊕bZ):=
 match fits N x N.E.length,sO N x,rF N x,uX N x with
 |some true,false,some true,some (M,true)=>if(M.E.length<=vE.length/\(vE.take M.E.length).drop N.E.length=M.E.drop N.E.length)/\jV N/\qL N x/\N.E.length<=200 then some (.inl M)else none
 |_,_,_,_=>none
theorem nA.read(h:nA R E0 N)(A:N.E<+:vE):bP (r8 vE) N.V ⟨R,E0,[],[]⟩=some (.inl N):=by
 induction h with
 |nil=>rfl
 | @add N x l s L b1 b2 a1 a2 a3 K a4 J F=>
  have A:N.E++l<+:vE:=A;have D:N.E<+:vE:=(Ii _ _).trans A;show bP (r8 vE) (N.V++[x]) _=_;rw[Zd (F D)];have G:uX N x=some (N.add x l s,true):=by grind[uX,decide_eq_true]
  simp only[bP,r8,a1,a2,a3,G];have e:(N.add x l s).E=N.E++l:=rfl;rw[ao];refine⟨⟨A.length_le,?_⟩,b1,b2,by rw[dM]at J;omega⟩;rw[e];obtain⟨t,rfl⟩:=A;rw[aiP]
structure FSx where
 gN:List Int
 gE:List Ed
 n:Nat
def qF(X:El×Nat->FSx->bZ)(p:El×Nat)(s:FSx):Option (FSx⊕bZ):=
 if 1000<s.n then none else if p.1.ev= -1 then
  if p.1.ed then(if s.gE.length<=1000 then some (.inl ⟨s.gN,s.gE++[⟨p.1.ty,p.1.fr,p.1.to⟩],s.n+1⟩)else none)
  else if s.gE=[]/\p.1.fr=0/\p.1.to=0/\s.gN.length<=1000 then some (.inl ⟨s.gN++[p.1.ty],s.gE,s.n+1⟩)else none
 else some (.inr (X p s))
theorem ab9{X:El×Nat->FSx->bZ}:∀{lN:List Int} {j:Nat} {s:FSx} {m:List (El×Nat)},s.gE=[]->s.gN.length+lN.length<=1000->s.n+lN.length<=1000->bP (qF X) ((lN.map vC).zipIdx j++m) s=bP (qF X) m ⟨s.gN++lN,s.gE,s.n+lN.length⟩
 |[],j,s,m,_,_,_=>by simp
 |a::lN,j,s,m,h,D,A=>by
  simp only[cD]at D A;simp only[fL,Nq,zC,bP];have:qF X (vC a,j) s=some (.inl ⟨s.gN++[a],s.gE,s.n+1⟩):=by grind[qF,vC]
  rw[this];simp only;rw[ab9 (lN:=lN) (s:=⟨s.gN++[a],s.gE,s.n+1⟩) h (by simp;omega) (by simp;omega)];grind[List.append_assoc,List.singleton_append,List.length_cons,Nat.add_right_comm,Nat.add_assoc]
theorem Xn{X:El×Nat->FSx->bZ}:∀{lE:List Ed} {j:Nat} {s:FSx} {m:List (El×Nat)},s.gE.length+lE.length<=1000->s.n+lE.length<=1000->bP (qF X) ((lE.map xh).zipIdx j++m) s=bP (qF X) m ⟨s.gN,s.gE++lE,s.n+lE.length⟩
 |[],j,s,m,_,_=>by simp
 |a::lE,j,s,m,A,h=>by
  simp only[cD]at A h;simp only[fL,Nq,zC,bP];have:qF X (xh a,j) s=some (.inl ⟨s.gN,s.gE++[a],s.n+1⟩):=by simp only[qF,xh,jz];rw[aj (by omega),ao (by omega)]
  rw[this];simp only;rw[Xn (lE:=lE) (s:=⟨s.gN,s.gE++[a],s.n+1⟩) (by simp;omega) (by simp;omega)];grind[List.append_assoc,List.singleton_append,List.length_cons,Nat.add_right_comm,Nat.add_assoc]
theorem auT{X:El×Nat->FSx->bZ}(A:lN.length+lE.length<=1000){m:List El}(h:∀y∈m,y.ev≠-1):
 ∃r,bP (qF X) (fc lN lE++m).zipIdx ⟨[],[],0⟩=some r/\(r=.inl ⟨lN,lE,lN.length+lE.length⟩\/∃p,r=.inr (X p ⟨lN,lE,lN.length+lE.length⟩)):=by
 unfold fc;rw[vH,List.zipIdx_append,List.zipIdx_append,ab9 rfl (by simp;omega) (by simp;omega),Xn (by simp;omega) (by simp;omega)];simp only[jS,iX];cases m;.exact⟨_,rfl,.inl rfl⟩
 .rename_i y m;grind[List.zipIdx_cons,bP,qF,List.mem_cons_self]
end
section
open Go.Proofs
variable{N:aT}{el:El}{m:List Int}
def ph(lN:List Int)(lE:List Ed)(x:Oc)(h:Oc->List Oc->Option (List Oc))(p:El×Nat)(fr:List Oc):Option (List Oc⊕bZ):=
 if x.no.length<lN.length then
  match lN[x.no.length]?with
  |some kind=>if w9 p.1 kind=true then
   (if fW x.no p.2 then some (.inl fr)else match h ⟨x.ru,x.no++[(p.2:Int)],x.ed⟩ fr with|some r=>some (.inl r)|none=>none)
   else some (.inl fr)
  |none=>none
 else match lE[x.ed.length]?with
  |some e=>(match wb p.1 e x.no with
   |some true=>if fW x.ed p.2 then some (.inl fr)else(match h ⟨x.ru,x.no,x.ed++[(p.2:Int)]⟩ fr with|some r=>some (.inl r)|none=>none)
   |some false=>some (.inl fr)
   |none=>none)
  |none=>none
def mt(N:aT)(lN:List Int)(lE:List Ed)(count:Nat):Nat->Oc->List Oc->Option (List Oc)
 |0,_,_=>none
 |f+1,x,fr=>
  if x.no.length=lN.length/\x.ed.length=lE.length then(match yj N x with|some z=>some (if z then fr++[x]else fr)|none=>none)
  else match bP (ph lN lE x (mt N lN lE count f)) (N.E.take count).zipIdx fr with
   |some (.inl r)=>some r
   |_=>none
theorem MX{f:α×Nat->σ->Option (σ⊕bZ)}{I:Nat->σ->Prop}:∀{l:List α} {i:Nat} {s s':σ},(∀y j s s',l[j]? =some y->I (i+j) s->f (y,i+j) s=some (.inl s')->I (i+j+1) s')->I i s->bP f (l.zipIdx i) s=some (.inl s')->I (i+l.length) s'
 |[],i,s,s',_,hi,h=>by cases h;exact hi
 |x::l,i,s,s',A,hi,h=>by
  simp only[Nq,bP]at h;split at h
  .rename_i J G;have L:=MX (I:=I) (l:=l) (i:=i+1) (λ y j s s' D K F=>by have:=A y (j+1) s s' (by simpa using D);grind) (A x 0 _ _ (by simp) hi G) h
   grind[List.length_cons]
  .cases h
  cases h
structure nG (N:aT) (lN:List Int) (lE:List Ed) (count:Nat) (x y:Oc):Prop where
 ru:y.ru=x.ru
 no:x.no<+:y.no
 ed:x.ed<+:y.ed
 ln:y.no.length=lN.length
 le:y.ed.length=lE.length
 new:yj N y=some true
 fn:∀i k,x.no.length<=i->y.no[i]? =some k->qD N lN y count (k,i)=some false
 fe:∀i k,x.ed.length<=i->y.ed[i]? =some k->rk N lE y count (k,i)=some false
def aaj(h:l<+:m){k:Int}:fW (m.take l.length) k=fW l k:=by obtain⟨t,rfl⟩:=h;rw[aiP]
def amF(h:l<+:m)(e:l.length=m.length):l=m:=h.eq_of_length e
theorem nG.node{x:Oc}{kind:Int}(h:nG N lN lE count ⟨x.ru,x.no++[(j:Int)],x.ed⟩ y)(M:(N.E.take count)[j]? =some el)(J:lN[x.no.length]? =some kind)(L:w9 el kind=true)(K:fW x.no j=false):nG N lN lE count x y where
 ru:=h.ru
 no:=(Ii _ _).trans h.no
 ed:=h.ed
 ln:=h.ln
 le:=h.le
 new:=h.new
 fn:=λ i k hi A=>by
  rcases Nat.lt_or_eq_of_le hi with e|e
  .exact h.fn i k (by simp;omega) A
  subst e;have D:y.no[x.no.length]? =some (j:Int):=by obtain⟨t,G⟩:=h.no;rw[<-G];simp
  rw[D]at A;cases A;have F:j<count/\N.E[j]? =some el:=by grind
  unfold qD;simp only;rw[aj (by omega),aj (by omega),Hl,F.2,J];simp only[L,jz];rw[aaj ((Ii _ _).trans h.no),K]
 fe:=h.fe
theorem nG.auO{x:Oc}{e:Ed}(h:nG N lN lE count ⟨x.ru,x.no,x.ed++[(j:Int)]⟩ y)(Y:lN.length<=x.no.length)(Z:(N.E.take count)[j]? =some el)(K:lE[x.ed.length]? =some e)(M:wb el e x.no=some true)(L:fW x.ed j=false):nG N lN lE count x y where
 ru:=h.ru
 no:=h.no
 ed:=(Ii _ _).trans h.ed
 ln:=h.ln
 le:=h.le
 new:=h.new
 fn:=h.fn
 fe:=λ i k hi A=>by
  rcases Nat.lt_or_eq_of_le hi with e'|e'
  .exact h.fe i k (by simp;omega) A
  subst e';have G:y.ed[x.ed.length]? =some (j:Int):=by obtain⟨t,J⟩:=h.ed;rw[<-J];simp
  rw[G]at A;cases A;have F:j<count/\N.E[j]? =some el:=by grind
  have D:x.no=y.no:=amF h.no (by have h1:=h.ln;have h2:x.no.length<=y.no.length:=h.no.length_le;omega);unfold rk;simp only;rw[aj (by omega),aj (by omega),Hl,F.2,K];simp only[<-D,M];rw[aaj ((Ii _ _).trans h.ed),L]
def nodup_append{l m:List α}(A:l.Nodup)(h:m.Nodup)(h3:∀a∈l,∀b∈m,a≠b):(l++m).Nodup:=List.nodup_append.2 ⟨A,h,h3⟩
theorem ayA:∀{f:Nat} {x:Oc} {fr r:List Oc},x.no.length<=lN.length->mt N lN lE count f x fr=some r->∃new,r=fr++new/\(∀y∈new,nG N lN lE count x y)/\new.Nodup:=by
 intro f;induction f with
 |zero=>intro x fr r _ h;cases h
 |succ f ih=>
  intro x fr r L h;simp only[mt]at h;split at h
  .rename_i hc;split at h
   .rename_i z hz;cases h;cases z;.exact⟨[],by simp,by simp,aiQ⟩
    refine⟨[x],by simp,λ y F=>?_,by simp⟩;simp only[dp]at F;subst F;refine⟨rfl,rQ _,rQ _,hc.1,hc.2,hz,λ i k hi M=>?_,λ i k hi M=>?_⟩;.grind[List.getElem?_eq_none]
    grind[List.getElem?_eq_none]
   cases h
  rename_i hc;split at h
  .rename_i r' hr;cases h;have ab:=MX (I:=λ j s=>∃new,s=fr++new/\(∀y∈new,nG N lN lE count x y/\∃k:Nat,k<j/\(if x.no.length<lN.length then y.no[x.no.length]? =some (k:Int)else y.ed[x.ed.length]? =some (k:Int)))/\new.Nodup) (l:=N.E.take count) (i:=0) (s:=fr) (s':=r) ?_ ⟨[],by simp,by simp,aiQ⟩ hr;.grind
   intro el j s s' hj ⟨new,i1,i2,i3⟩ D;rw[iX]at D⊢i2;have kV:∀y∈new,nG N lN lE count x y/\∃k:Nat,k<j+1/\(if x.no.length<lN.length then y.no[x.no.length]? =some (k:Int)else y.ed[x.ed.length]? =some (k:Int)):=λ y F=>by grind
   have add:∀A:List Oc,s'=s++A->(∀y∈A,nG N lN lE count x y/\(if x.no.length<lN.length then y.no[x.no.length]? =some (j:Int)else y.ed[x.ed.length]? =some (j:Int)))->A.Nodup->∃new,s'=fr++new/\(∀y∈new,nG N lN lE count x y/\∃k:Nat,k<j+1/\(if x.no.length<lN.length then y.no[x.no.length]? =some (k:Int)else y.ed[x.ed.length]? =some (k:Int)))/\new.Nodup:=by
    intro A n1 J K;refine⟨new++A,by rw[n1,i1,vH],λ y F=>?_,nodup_append i3 K λ a ha b hb e=>?_⟩;.grind
    grind[Option.some.injEq]
   have same:s'=s->∃new,s'=fr++new/\(∀y∈new,nG N lN lE count x y/\∃k:Nat,k<j+1/\(if x.no.length<lN.length then y.no[x.no.length]? =some (k:Int)else y.ed[x.ed.length]? =some (k:Int)))/\new.Nodup:=λ e=>⟨new,by rw[e];exact i1,kV,i3⟩
   unfold ph at D;split at D
   .rename_i Z;split at D
    .rename_i kind M;split at D
     .rename_i hf;split at D;.cases D;exact same rfl
      rename_i hh;split at D;.rename_i r2 G;cases D;obtain⟨A,n1,J,K⟩:=ih (by simp;omega) G;refine add A n1 (λ y F=>⟨(J y F).node hj M hf (by simpa using hh),?_⟩) K;rw[ao Z];obtain⟨t,Y⟩:=(J y F).no;rw[<-Y];simp
      cases D
     cases D;exact same rfl
    cases D
   rename_i Z;split at D
   .rename_i e M;split at D
    .rename_i hf;split at D;.cases D;exact same rfl
     rename_i hh;split at D;.rename_i r2 G;cases D;obtain⟨A,n1,J,K⟩:=ih (by simpa using L) G;refine add A n1 (λ y F=>⟨(J y F).auO (by omega) hj M hf (by simpa using hh),?_⟩) K;rw[aj Z];obtain⟨t,Y⟩:=(J y F).ed;rw[<-Y];simp
     cases D
    .cases D;exact same rfl
    cases D
   cases D
  cases h
theorem L5{f:α->List β->Option (List β⊕bZ)}{p:α->Bool}:∀{l:List α} {s s':List β},(∀x∈l,∀s s',f x s=some (.inl s')->s'.length<=s.length+(if p x then B else 0))->bP f l s=some (.inl s')->s'.length<=s.length+(l.filter p).length*B
 |[],s,s',_,h=>by cases h;simp
 |x::l,s,s',A,h=>by
  simp only[bP]at h;split at h;.rename_i G F;have a:=A x (cS ..) _ _ F;have b:=L5 (λ y D=>A y (cz _ D)) h;grind[List.length_cons,Nat.succ_mul]
  .cases h
  cases h
def uw(N:aT)(count:Nat):Nat:=((N.E.take count).zipIdx.filter λ p=> !p.1.ed).length
def sH(N:aT)(count:Nat):Nat:=((N.E.take count).zipIdx.filter λ p=>p.1.ed).length
theorem asm:uw N count+sH N count<=N.E.length:=by
 unfold uw sH
 have:∀l:List (El×Nat),(l.filter λ p=> !p.1.ed).length+(l.filter λ p=>p.1.ed).length=l.length:=by
  intro l;induction l with
  |nil=>rfl
  |cons a l h=>grind
 grind[List.length_zipIdx,List.length_take]
theorem ajg:∀{f:Nat} {x:Oc} {fr r:List Oc},mt N lN lE count f x fr=some r->r.length<=fr.length+(uw N count+1)^(lN.length-x.no.length)*(sH N count+1)^(lE.length-x.ed.length):=by
 intro f;induction f with
 |zero=>intro x fr r h;cases h
 |succ f J=>
  intro x fr r h;simp only[mt]at h;split at h
  .split at h;.rename_i z K;cases h;have:0<(uw N count+1)^(lN.length-x.no.length)*(sH N count+1)^(lE.length-x.ed.length):=Nat.mul_pos (Nat.pow_pos (by omega)) (Nat.pow_pos (by omega));cases z<;>simp<;>omega
   cases h
  rename_i Z;split at h
  .rename_i G A;cases h;by_cases M:x.no.length<lN.length
   .have:=L5 (p:=λ p:El×Nat=> !p.1.ed) (B:=(uw N count+1)^(lN.length-(x.no.length+1))*(sH N count+1)^(lE.length-x.ed.length)) (λ p _ s s' D=>by grind[ph,r2,List.length_append,List.length_singleton,w9]) A
    refine fX this (Nat.add_le_add_left ?_ _);rw[show lN.length-x.no.length=(lN.length-(x.no.length+1))+1 by omega,Ih];grind[Nat.mul_comm,uw,Nat.mul_assoc,Nat.mul_le_mul_right]
   have F:∀e,lE[x.ed.length]? =some e->x.ed.length<lE.length:=λ e Y=>by grind[List.getElem?_eq_some_iff]
   have:=L5 (p:=λ p:El×Nat=>p.1.ed) (B:=(uw N count+1)^(lN.length-x.no.length)*(sH N count+1)^(lE.length-(x.ed.length+1))) (λ p _ s s' D=>by grind[ph,r2,List.length_append,List.length_singleton,wb]) A
   by_cases L:x.ed.length<lE.length;.refine fX this (Nat.add_le_add_left ?_ _);rw[show lE.length-x.ed.length=(lE.length-(x.ed.length+1))+1 by omega,Ih];grind[uw,sH,Nat.mul_comm,Nat.mul_assoc,Nat.mul_le_mul_right]
   have h0:=L5 (p:=λ _:El×Nat=>false) (B:=0) (λ p _ s s' D=>by grind[ph]) A
   grind
  cases h
end
section
open Go.Proofs
variable{p:α->Option Bool}{s:BitVec 64}
def pq{l:List α}{k:Int}(h0:0<=k)(h:k<l.length):∃x,df l k=some x/\x∈l:=by unfold df;simp_all
def CF:∀{l:List α},(∀x∈l,∃b,p x=some b)->∃b,jy p l=some b
 |[],_=>⟨false,rfl⟩
 |x::l,h=>by
  obtain⟨b,D⟩:=h x (cS ..);simp only[jy,D];cases b;.exact CF λ y A=>h y (cz _ A)
  exact⟨true,rfl⟩
theorem RV:∀{l:List α} {i:Nat},(∀x∈l,∃b,p x=some b)->∃z,lg p i l=some z/\(z= -1\/∃j:Nat,z=j/\i<=j/\j<i+l.length)
 |[],i,_=>⟨-1,rfl,.inl rfl⟩
 |x::l,i,h=>by
  obtain⟨b,D⟩:=h x (cS ..);simp only[lg,D];cases b
  .obtain⟨z,G,F⟩:=RV (i:=i+1) λ y A=>h y (cz _ A)
   grind
  grind
def KV{f:α->σ->Option (σ⊕bZ)}{I:σ->Prop}:∀{l:List α} {s:σ},(∀x∈l,∀s,I s->∃s',f x s=some (.inl s')/\I s')->I s->∃s',bP f l s=some (.inl s')/\I s'
 |[],s,_,hi=>⟨s,rfl,hi⟩
 |x::l,s,h,hi=>by obtain⟨G,F,D⟩:=h x (cS ..) s hi;simp only[bP,F];exact KV (λ y A=>h y (cz _ A)) D
variable{N:aT}
def BB.or{b:BitVec 64}(h:BB a m)(k:BB b m):BB (a|||b) m:=λ i hi=>by rw[aEd,aEe,nZ]at hi;exact hi.elim (h i) (k i)
def BB.zero:BB 0#64 m:=λ i hi=>by simp at hi
theorem BB.one{e:Nat}(h:e<m):BB (1#64<<<e) m:=λ i hi=>by rw[aBa,Nat.testBit_mod_two_pow,Nat.shiftLeft_eq]at hi;grind
def BB.mono(h:BB s m)(A:m<=k):BB s k:=λ i hi=>dF (h i hi) A
def LI(h:BB s m)(A:e∈dH s):0<=e/\e<m:=by unfold dH tg at A;simp only[eK,Vq]at A;obtain⟨n,⟨_,D⟩,rfl⟩:=A;have:=h n D;omega
theorem Iq(A:jV N){l:List Int}(L:∀k∈l,0<=k/\k<N.E.length):∃s,sq N l=some s/\BB s N.V.length:=by
 have:=KV (f:=Ag N) (I:=λ o=>BB o N.V.length) (l:=l) (s:=0#64) (λ k M o J=>by
  obtain⟨h0,Z⟩:=L k M;obtain⟨y,G,K⟩:=pq h0 Z;unfold Ag;rw[G];simp only;have D:=A.el y K;by_cases h:0<=y.ev;.rw[ao h];obtain⟨c,Y,F⟩:=pq (l:=N.C) h (by rw[A.cv];exact D);rw[Y];exact⟨_,rfl,J.or ((BB.one (by omega)).or (A.ca c F))⟩
  grind) BB.zero
 grind[sq]
def Jr{x:Oc}(h:∃r,df N.R x.ru=some r/\x.no.length=r.lN.length/\x.ed.length=r.lE.length):∃l,qW N x=some l:=by obtain⟨r,A,_⟩:=h;exact⟨_,by unfold qW;rw[A]⟩
theorem akT(A:jV N){f:Int}(F:0<=e/\e<N.V.length)(D:0<=f/\f<N.V.length):∃b,ahead N e f=some b:=by
 obtain⟨x,L,K⟩:=pq F.1 F.2;obtain⟨y,J,h⟩:=pq D.1 D.2;unfold ahead;rw[L,J];simp only;obtain⟨mk,M⟩:=CF (p:=zf N e) (l:=gO y) λ k Y=>by obtain⟨a,b⟩:=(A.oc y h).us k Y;obtain⟨z,G,_⟩:=pq a b;exact⟨_,by unfold zf;rw[G]⟩
 rw[M];simp only;obtain⟨dl,Z⟩:=Jr (A.oc y h).ru;grind
theorem ap4(D:jV N){f:Int}(G:0<=e/\e<N.V.length)(F:0<=f/\f<N.V.length):∃b,xd N e f=some b:=by obtain⟨x,K,A⟩:=pq G.1 G.2;obtain⟨y,J,h⟩:=pq F.1 F.2;unfold xd;rw[K,J];simp only;obtain⟨a,M⟩:=Jr (D.oc x A).ru;obtain⟨b,L⟩:=Jr (D.oc y h).ru;rw[M,L];split<;>exact⟨_,rfl⟩
theorem azW(A:jV N){l o:List Int}(D:∀e∈l,0<=e/\e<N.V.length){f:Int}(F:0<=f/\f<N.V.length):∃b,ready N l o f=some b:=by
 unfold ready;split;.exact⟨_,rfl⟩
 obtain⟨b,h⟩:=CF (p:=before N o f) (l:=l) λ e G=>by grind[before,akT]
 rw[h];exact⟨_,rfl⟩
theorem alP(F:jV N){l:List Int}(A:∀e∈l,0<=e/\e<N.V.length):∀{k:Nat} {o:List Int},o.length<=l.length->l.length<o.length+k->∃r,vA N l k o=some r:=by
 intro k;induction k with
 |zero=>intro o h0 h;omega
 |succ k D=>
  intro o h0 h;simp only[vA];split
  .obtain⟨z,K,J⟩:=RV (p:=ready N l o) (l:=l) (i:=0) λ f G=>azW F A (A f G)
   rw[K];simp only;rcases J with rfl|⟨j,rfl,_,L⟩
   .grind
   rw[aj (by omega),Hl,cW (by omega)];exact D (by simp;omega) (by simp;omega)
  exact⟨_,rfl⟩
theorem aAF(A:jV N)(h:BB s N.V.length):∃b,ux N s=some b:=by
 unfold ux
 obtain⟨b,L⟩:=CF (p:=wk N s) (l:=dH s) λ e D=>by
  obtain⟨h0,F⟩:=LI h D;obtain⟨c,K,J⟩:=pq (l:=N.C) h0 (by rw[A.cv];exact F);unfold wk;rw[K];simp only;split;.exact CF λ f G=>ap4 A ⟨h0,F⟩ (LI h G)
  exact⟨_,rfl⟩
 rw[L];cases b;.obtain⟨r,M⟩:=alP A (l:=dH s) (k:=66) (o:=[]) (λ e D=>LI h D) (by simp) (by grind[Lg]);grind
 exact⟨_,rfl⟩
theorem ayB(A:jV N){x:Oc}(G:∀k∈gO x,0<=k/\k<N.E.length):∃b,rF N x=some b:=by
 unfold rF;obtain⟨s,D,F⟩:=Iq A G;rw[D];simp only;obtain⟨b,K⟩:=aAF A F;rw[K];cases b;.exact⟨_,rfl⟩
 obtain⟨c,M⟩:=CF (p:=xT N x) (l:=dH s) λ e J=>by obtain⟨h0,D⟩:=LI F J;obtain⟨y,L,h⟩:=pq h0 D;obtain⟨a,Y⟩:=Jr (A.oc y h).ru;grind[xT]
 grind
def aAD(A:jV N){x:Oc}(h:∀k∈gO x,0<=k/\k<N.E.length):∃b,yj N x=some b:=by
 unfold yj;split;.exact⟨_,rfl⟩
 exact ayB A h
theorem Rn(hn:jV N){x:Oc}(hx:∃r,df N.R x.ru=some r/\x.no.length=r.lN.length/\x.ed.length=r.lE.length)(ev fr:Int):∃l,vU N x ev fr=some l/\l.length<=20:=by
 obtain⟨r,Z,hl,_⟩:=hx;have ro:=hn.ro r (ni Z);unfold vU;rw[Z];simp only
 have h1:∀(l:List (Int×Nat)) (s:MS),s.1.length+l.length<=10->s.2.length+l.length<=10->∃s',bP (xI r x ev fr) l s=some (.inl s')/\s'.1.length<=s.1.length+l.length/\s'.2.length=s.2.length+l.length:=by
  intro l;induction l with
  |nil=>intro s _ _;exact⟨s,rfl,by simp,by simp⟩
  |cons p l ih=>
   intro s K J;simp only[cD]at K J;obtain⟨z,hz,F⟩:=RV (p:=λ y=>some (decide ((p.2:Int)=y))) (l:=r.iN) (i:=0) λ _ _=>⟨_,rfl⟩
   have G:Lp r.iN p.2=some z:=hz
   have step:∃D,xI r x ev fr p s=some (.inl D)/\D.1.length<=s.1.length+1/\D.2.length=s.2.length+1:=by
    unfold xI;rw[ao ⟨by omega,by omega⟩,G];simp only;by_cases h:z>=0
    .rw[ao h];rcases F with rfl|⟨j,rfl,_,hj⟩
     .omega
     obtain⟨a,ha,L⟩:=pq (l:=r.kN) (k:=(j:Int)) (by omega) (by have:=ro.ik;omega);rw[ha];simp only;obtain⟨b0,b1⟩:=ro.kn a L;obtain⟨b,hb,_⟩:=pq (l:=x.no) b0 (by omega);grind
    grind
   obtain⟨D,a1,a2,a3⟩:=step;grind[bP,List.length_cons]
 have A:r.rN.zipIdx.length=r.rN.length:=rP;have ab:r.rE.zipIdx.length=r.rE.length:=rP;obtain⟨s,a1,a2,a3⟩:=h1 r.rN.zipIdx ([],[]) (by simp[A];exact ro.rn) (by simp[A];exact ro.rn);rw[a1];simp only
 have h2:∀(l:List (Ed×Nat)) (o:List El),(∀p∈l,p.1∈r.rE)->o.length+l.length<=100->∃Y,bP (yR r s.2 ev) l o=some (.inl Y)/\Y.length<=o.length+l.length:=by
  intro l;induction l with
  |nil=>intro o _ _;exact⟨o,rfl,by simp⟩
  |cons p l ih=>
   intro o hp ho;simp only[cD]at ho
   have step:∃M,yR r s.2 ev p o=some (.inl M)/\M.length<=o.length+1:=by
    unfold yR;rw[ao (by omega)];split;.exact⟨_,rfl,by omega⟩
    obtain⟨c1,c2,c3,c4⟩:=ro.rr p.1 (hp p (cS ..));simp only[dG,iX,A]at a3;obtain⟨u,hu,_⟩:=pq (l:=s.2) c1 (by omega);obtain⟨v,hv,_⟩:=pq (l:=s.2) c3 (by omega);grind
   grind[List.mem_cons_of_mem,bP,List.length_cons]
 simp only[dG,iX,A]at a2;have:=ro.rn;have:=ro.re;obtain⟨o,b1,b2⟩:=h2 r.rE.zipIdx s.1 (λ p hp=>by grind[List.fst_mem_of_mem_zipIdx]) (by omega)
 grind
theorem jV.add(A:jV N){x:Oc}(M:qL N x){l:List El}(G:∀y∈l,y.ev=N.V.length)(F:BB s N.V.length)(L:N.V.length<30):jV (N.add x l s)where
 ro:=A.ro
 cv:=by show(N.C++[s]).length=(N.V++[x]).length;simp[A.cv]
 vl:=by show(N.V++[x]).length<=30;simp;omega
 el:=λ y D=>by
  show y.ev<((N.V++[x]).length:Int);rw[dM,zH];rcases jA.1 (show y∈N.E++l from D)with h|h
  .have:=A.el y h;omega
  have:=G y h;omega
 oc:=λ y D=>by
  have up:qL N y->qL (N.add x l s) y:=λ h=>⟨λ k J=>by obtain⟨a,b⟩:=h.us k J;refine⟨a,?_⟩;show k<((N.E++l).length:Int);rw[dM];omega,h.ru⟩
  rcases jA.1 (show y∈N.V++[x]from D)with h|h
  .exact up (A.oc y h)
  grind[List.mem_singleton]
 ca:=λ c K=>by
  show BB c (N.V++[x]).length;rw[dM];rcases jA.1 (show c∈N.C++[s]from K)with h|h
  .exact(A.ca c h).mono (by omega)
  simp only[dp]at h;subst h;exact F.mono (by omega)
end
section
open Go.Proofs
variable{R:List RU}{k:Int}{r:RU}
variable{N:aT}
theorem axC{i:Int}(h:df N.R i=some r):¬i<0/\¬i>=N.R.length:=by grind[df,List.getElem?_eq_some_iff]
def nG.fits(F:df N.R i=some r)(h:nG N r.lN r.lE count ⟨i,[],[]⟩ y):fits N y count=some true:=by
 have A:y.ru=i:=h.ru;obtain⟨J,G⟩:=axC F;unfold Abs.fits;rw[A,aj J,aj G,F];simp only[h.ln,h.le,vI,jz];have a1:jy (qD N r.lN y count) y.no.zipIdx=some false:=yO.2 λ p D=>by obtain⟨k,j⟩:=p;have:=Ig.1 D;exact h.fn j k (by simp) this
 have a2:jy (rk N r.lE y count) y.ed.zipIdx=some false:=yO.2 λ p D=>by obtain⟨k,j⟩:=p;have:=Ig.1 D;exact h.fe j k (by simp) this
 rw[a1,a2];rfl
structure Nc (N:aT) (y:Oc):Prop where
 fit:fits N y N.E.length=some true
 pos:rF N y=some true
 pre:sO N y=false
 ok:qL N y
theorem amo{c:Int}(h:qD N lN y c (k,i)=some false):0<=k/\k<c:=by grind[qD]
theorem ajN{c:Int}(h:rk N lE y c (k,i)=some false):0<=k/\k<c:=by grind[rk]
theorem adl(h:yj N y=some true):sO N y=false/\rF N y=some true:=by grind[yj]
def nG.avV(F:df N.R i=some r)(h:nG N r.lN r.lE N.E.length ⟨i,[],[]⟩ y):Nc N y where
 fit:=h.fits F
 pos:=(adl h.new).2
 pre:=(adl h.new).1
 ok:=⟨λ k A=>by
  unfold gO at A;rcases jA.1 A with A|A
  .obtain⟨j,D⟩:=VD A;exact amo (h.fn j k (by simp) D)
  obtain⟨j,D⟩:=VD A;exact ajN (h.fe j k (by simp) D),r,by rw[h.ru];exact F,h.ln,h.le⟩
def pK(N:aT)(p:RU×Nat)(fr:List Oc):Option (List Oc⊕bZ):=match mt N p.1.lN p.1.lE N.E.length 6 ⟨p.2,[],[]⟩ fr with
 |some r=>some (.inl r)
 |none=>none
def xn(N:aT):Option (List Oc):=match bP (pK N) N.R.zipIdx []with
 |some (.inl r)=>some r
 |_=>none
theorem W3(h:xn N=some fr):(∀y∈fr,Nc N y)/\fr.Nodup:=by
 unfold xn at h;split at h
 .rename_i r Y;cases h
  have:=MX (f:=pK N) (I:=λ j s=>(∀y∈s,Nc N y/\y.ru<j)/\s.Nodup) (l:=N.R) (i:=0) (s:=[]) (s':=fr) (λ r j s s' Z ⟨K,M⟩ D=>by
   rw[iX]at D K⊢;unfold pK at D;split at D
   .rename_i r2 G;cases D;obtain⟨new,n1,F,L⟩:=ayA (iB _) G;subst n1;have J:df N.R (j:Int)=some r:=by rw[Hl];exact Z
    refine⟨λ y A=>?_,nodup_append M L λ a ha b hb e=>?_⟩
    .rcases jA.1 A with A|A
     .grind
     exact⟨(F y A).avV J,by have:y.ru=j:=(F y A).ru;omega⟩
    subst e;have:=(K a ha).2;have h2:a.ru=j:=(F a hb).ru;omega
   cases D) ⟨by simp,aiQ⟩ Y
  grind
 cases h
theorem ass(hn:jV N)(hc:count<=N.E.length)(ro:zg r):∀{f:Nat} {x:Oc} {fr:List Oc},df N.R x.ru=some r->(∀k∈gO x,0<=k/\k<N.E.length)->x.no.length<=r.lN.length->x.ed.length<=r.lE.length->(r.lN.length-x.no.length)+(r.lE.length-x.ed.length)<f->∃s,mt N r.lN r.lE count f x fr=some s:=by
 intro f;induction f with
 |zero=>intro x fr _ _ _ _ h;omega
 |succ f ih=>
  intro x fr hr D L Z hf;simp only[mt];split;.obtain⟨b,hb⟩:=aAD hn D;rw[hb];exact⟨_,rfl⟩
  rename_i ac
  obtain⟨s,hs,_⟩:=KV (f:=ph r.lN r.lE x (mt N r.lN r.lE count f)) (I:=λ _=>True) (l:=(N.E.take count).zipIdx) (s:=fr) (λ p hp s _=>by
   have G:(p.2:Int)<N.E.length:=by grind[List.snd_lt_of_mem_zipIdx,List.length_take]
   have F:∀(a b:List Int),gO ⟨x.ru,a,b⟩=a++b:=λ _ _=>rfl
   unfold ph;by_cases M:x.no.length<r.lN.length
   .rw[ao M,cW M];simp only;split
    .split;.exact⟨_,rfl,trivial⟩
     obtain⟨t,K⟩:=ih (x:=⟨x.ru,x.no++[(p.2:Int)],x.ed⟩) (fr:=s) hr (λ k A=>by
      rw[F]at A;simp only[jA,dp]at A;rcases A with(A|rfl)|A
      .exact D k (Ej _ A)
      .exact⟨by omega,G⟩
      exact D k (ND _ A)) (by simp;omega) Z (by simp;omega)
     rw[K];exact⟨_,rfl,trivial⟩
    exact⟨_,rfl,trivial⟩
   rw[aj M];have ab:x.no.length=r.lN.length:=by omega
   have J:x.ed.length<r.lE.length:=by grind[Nat.lt_or_ge]
   rw[cW J];simp only;obtain⟨e1,e2,e3,e4⟩:=ro.ee _ (xC J)
   have Y:∃b,wb p.1 r.lE[x.ed.length] x.no=some b:=by
    unfold wb;obtain⟨u,D,_⟩:=pq (l:=x.no) e1 (by omega);obtain⟨v,hv,_⟩:=pq (l:=x.no) e3 (by omega);rw[D,hv];split
    .split;.simp only;split<;>exact⟨_,rfl⟩
     exact⟨_,rfl⟩
    exact⟨_,rfl⟩
   obtain⟨b,hb⟩:=Y;rw[hb];cases b;.exact⟨_,rfl,trivial⟩
   simp only;split;.exact⟨_,rfl,trivial⟩
   obtain⟨t,K⟩:=ih (x:=⟨x.ru,x.no,x.ed++[(p.2:Int)]⟩) (fr:=s) hr (λ k A=>by
    rw[F]at A;simp only[jA,dp]at A;rcases A with A|A|rfl
    .exact D k (Ej _ A)
    .exact D k (ND _ A)
    exact⟨by omega,G⟩) L (by simp;omega) (by simp;omega)
   rw[K];exact⟨_,rfl,trivial⟩) trivial
  rw[hs];exact⟨_,rfl⟩
theorem ad5(A:jV N):∃fr,xn N=some fr:=by
 obtain⟨s,F,_⟩:=KV (f:=pK N) (I:=λ _=>True) (l:=N.R.zipIdx) (s:=[]) (λ p J s _=>by
  have h:df N.R (p.2:Int)=some p.1:=by grind[Hl,List.mem_zipIdx_iff_getElem?]
  have ro:=A.ro p.1 (ni h);obtain⟨t,D⟩:=ass A (be _) ro (f:=6) (x:=⟨p.2,[],[]⟩) (fr:=s) h (by intro k G;cases G) (iB _) (iB _) (by have:=ro.ln;have:=ro.le;simp;omega);exact⟨_,by unfold pK;rw[D],trivial⟩) trivial
 exact⟨s,by unfold xn;rw[F]⟩
theorem auU(M:jV N)(hE:N.E.length<=220)(hR:N.R.length<=3)(h:xn N=some fr):fr.length<=500000000:=by
 unfold xn at h;split at h
 .rename_i r L;cases h
  have:=MX (f:=pK N) (I:=λ j s=>s.length<=j*160000000) (l:=N.R) (i:=0) (s:=[]) (s':=fr) (λ r j s s' Y hi A=>by
   rw[iX]at A hi⊢;unfold pK at A;split at A
   .rename_i r2 D;cases A;have G:=ajg D;have ro:=M.ro r (jm Y);have A:=asm (N:=N) (count:=N.E.length);simp only[dG,Vl]at G;generalize uw N N.E.length=a at G A;generalize sH N N.E.length=b at G A;have K:(a+1)^r.lN.length<=(a+1)^2:=Vv (by omega) ro.ln;have p2:(b+1)^r.lE.length<=(b+1)^2:=Vv (by omega) ro.le;have p3:=Ib K p2;have p4:(a+1)^2*(b+1)^2=((a+1)*(b+1))^2:=(Nat.mul_pow _ _ _).symm
    have J:(a+1)*(b+1)<=12400:=by
     have q:4*((a+1)*(b+1))<=(a+b+2)*(a+b+2):=by
      have:(a+b+2)*(a+b+2)=4*((a+1)*(b+1))+(if a<=b then(b-a)*(b-a)else(a-b)*(a-b)):=by
       split;.grind[Nat.le.dest,Nat.add_sub_cancel_left,Nat.mul_add,Nat.add_mul,Nat.mul_comm]
       rename_i F;obtain⟨c,rfl⟩:=Nat.le.dest (Nat.le_of_not_le F);grind[Nat.add_sub_cancel_left,Nat.mul_add,Nat.add_mul,Nat.mul_comm]
      omega
     have q2:(a+b+2)*(a+b+2)<=222*222:=Ib (by omega) (by omega);omega
    have Z:((a+1)*(b+1))^2<=12400^2:=Nat.pow_le_pow_left J 2;grind[Nat.succ_mul]
   cases A) (by simp) L
  grind[Nat.mul_le_mul_right]
 cases h
open Classical in
noncomputable def uJ(most:Nat)(x:Oc)(s:aT×Bool):Option ((aT×Bool)⊕bZ):=if s.1.V.length<most/\s.2=true then(if jV s.1/\qL s.1 x/\s.1.E.length<=200 then(match uX s.1 x with|some t=>some (.inl t)|none=>none)else none)else some (.inl s)
def FP(most:Nat):Nat->aT->Option (aT×Bool)
 |0,_=>none
 |f+1,N=>match xn N with
  |some fr=>(match bP (uJ most) fr (N,true)with
   |some (.inl (M,ok))=>if N.V.length<M.V.length/\ok=true then FP most f M else some (M,ok)
   |_=>none)
  |none=>none
theorem avP{x:Oc}(h:xj x y=true):x=y:=by unfold xj at h;simp only[aR,Ek]at h;obtain⟨a,b,c⟩:=h;cases x;cases y;simp_all
theorem ayi{x:Oc}{l:List El}{s:BitVec 64}(h:sO N y=false)(A:y≠x):sO (N.add x l s) y=false:=by have h:N.V.any (xj y)=false:=h;show(N.V++[x]).any (xj y)=false;grind[xj,avP]
def qL.up{M:aT}(h:iD N M){x:Oc}(k:qL N x):qL M x where
 us:=λ i hi=>by obtain⟨a,b⟩:=k.us i hi;exact⟨a,by have:=h.e.length_le;omega⟩
 ru:=by rw[<-h.r];exact k.ru
structure St (R:List RU) (E0:List El) (most:Nat) (M:aT):Prop where
 KZ:nA R E0 M
 qB:jV M
 len:M.E.length<=200
 ml:M.V.length<=most
theorem JY(hm:most<=30):∀{l:List Oc} {s:aT×Bool},(∀y∈l,Nc N y)->l.Nodup->(s.2=true->St R E0 most s.1/\iD N s.1/\∀y∈l,sO s.1 y=false)->(s.1.E.length<=220/\s.1.V.length<=30)->∃t,bP (uJ most) l s=some (.inl t)/\(t.2=true->St R E0 most t.1/\iD N t.1)/\t.1.E.length<=220/\t.1.V.length<=30
 |[],s,_,_,hi,hb=>⟨s,rfl,λ h=>⟨(hi h).1,(hi h).2.1⟩,hb⟩
 |x::l,s,hc,Y,hi,hb=>by
  simp only[bP];have D:=List.nodup_cons.1 Y;by_cases A:s.1.V.length<most/\s.2=true
  .obtain⟨st,pre,pr⟩:=hi A.2;have cx:=hc x (cS ..);have J:=cx.ok.up pre;obtain⟨K,G,ac⟩:=Rn st.qB J.ru s.1.V.length s.1.E.length;obtain⟨b1,L,ab⟩:=Iq st.qB J.us;have ha:uJ most x s=some (.inl (s.1.add x K b1,decide (((s.1.E++K).length:Int)<=200))):=by unfold uJ uX;rw[ao A,ao ⟨st.qB,J,st.len⟩,G,L]
   rw[ha];simp only;have Z:∀y∈K,y.ev=s.1.V.length:=Km G;refine JY hm (λ y F=>hc y (cz _ F)) D.2 (λ M=>?_) ⟨?_,?_⟩
   .simp only[Ek]at M;refine⟨⟨.add st.KZ st.qB J (ayc pre (by have:=pre.e.length_le;omega) cx.fit) (pr x (cS ..)) (ajL pre cx.pos) G L (by omega),st.qB.add J Z ab (by omega),?_,?_⟩,pre.trans (iD.add _ _ _ _),λ y F=>ayi (pr y (cz _ F)) λ e=>D.1 (e▸F)⟩;.show(s.1.E++K).length<=200;omega
    show(s.1.V++[x]).length<=most;grind[List.length_append,List.length_singleton]
   .show(s.1.E++K).length<=220;rw[dM];have:=st.len;omega
   show(s.1.V++[x]).length<=30;grind[List.length_append,List.length_singleton]
  have ha:uJ most x s=some (.inl s):=by unfold uJ;rw[aj A]
  rw[ha];simp only;exact JY hm (λ y F=>hc y (cz _ F)) D.2 (λ h=>⟨(hi h).1,(hi h).2.1,λ y F=>(hi h).2.2 y (cz _ F)⟩) hb
theorem Wh{R:List RU}{E0:List El}(J:most<=30):∀{f:Nat} {N:aT},St R E0 most N->most<N.V.length+f->∃M ok,FP most f N=some (M,ok)/\(ok=true->St R E0 most M)/\M.E.length<=220/\M.V.length<=30
 |0,N,A,Y=>by have:=A.ml;omega
 |f+1,N,A,Y=>by
  obtain⟨fr,D⟩:=ad5 A.qB;obtain⟨K,G⟩:=W3 D;obtain⟨⟨M,ok⟩,h1,Z,h3,h4⟩:=JY (N:=N) (R:=R) (E0:=E0) J (s:=(N,true)) K G (λ _=>⟨A,iD.refl N,λ y L=>(K y L).pre⟩) ⟨by show N.E.length<=220;have:=A.len;omega,A.qB.vl⟩;simp only[FP,D,h1];split;.rename_i h;have F:=(Z h.2).1;exact Wh J F (by omega)
  grind
end
section
open Go.Proofs
variable{R:List RU}{E0:List El}{N:aT}
theorem nA.split(h:nA R E0 N):∃m,N.E=E0++m/\∀y∈m,0<=y.ev:=by
 induction h with
 |nil=>exact⟨[],by simp,by simp⟩
 | @add N x l s J _ _ _ _ _ G _ _ A=>
  obtain⟨m,D,K⟩:=A;refine⟨m++l,?_,λ y F=>?_⟩;.show N.E++l=_;rw[D,vH]
  grind[Km]
def nA.rules(h:nA R E0 N):N.R=R:=by
 induction h with
 |nil=>rfl
 |add _ _ _ _ _ _ _ _ _ A=>exact A
theorem XO:∀y∈fc lN lE,y.ev= -1:=by
 intro y h;unfold fc at h;rcases jA.1 h with h|h
 .obtain⟨a,_,rfl⟩:=eK.1 h;rfl
 obtain⟨a,_,rfl⟩:=eK.1 h;rfl
def VL:(fc lN lE).length=lN.length+lE.length:=by unfold fc;simp
theorem St.start(D:∀r∈R,zg r)(A:lN.length+lE.length<=200)(most:Nat):St R (fc lN lE) most ⟨R,fc lN lE,[],[]⟩where
 KZ:=.nil
 qB:=⟨D,rfl,iB _,λ y h=>by grind[XO],λ y h=>(by cases h),λ y h=>(by cases h)⟩
 len:=by rw[VL];exact A
 ml:=iB _
end
section
open Go.Proofs
variable{gl:aM}{base:eH}
abbrev wy(l:List Ed):ae:=.sl (l.map Ed.c) (some 3)
def ab1{l:List Ed}{x:Ed}(h:l.length<=100000):∀st,iG st 3 (wy l) (.sl [x.c] (some 3))=some (wy (l++[x])):=λ st=>by
 have e:(ae.sl (l.map Ed.c++[x.c]) (some 3))=wy (l++[x]):=by simp
 rw[<-e];exact lZ (by simp only[aF,cD,dG];omega) rfl
def Iu{x:Int}(h:l.length<=100000):∀st,iG st 1 (fk l) (.sl [[eI x]] (some 1))=some (fk (l++[x])):=λ st=>by rw[<-zZ];exact lZ (by simp only[aF,cD,dG];omega) rfl
def CP:cy af 39=true:=by kernel_rfl
def FX:cy af 40=true:=by kernel_rfl
abbrev Gy(n:Nat)(vE:List El)(i:Nat):VT:=[(2,.ptr 0 2 0),(4,.ptr 0 4 0),(7,.ptr 0 7 0),(8,eI n),(12,.sl (vE.map El.c) none),(13,eI vE.length),(14,eI i)]
abbrev FV(tn te:aS)(s:FSx):aq:=(aH [(2,[.sl tn none,.sl te none]),(4,[.sl [] (some 1),.sl [] (some 3)]),(7,[fk s.gN,wy s.gE])] [])
def Fh(tn te:aS)(vE:List El)(p:El×Nat)(s:FSx):bZ:=(.exit 0,[(2,.ptr 0 2 0),(4,.ptr 0 4 0),(7,.ptr 0 7 0),(8,eI s.n),(10,.ptr 0 10 0),(12,.sl (vE.map El.c) none),(13,eI vE.length),(14,eI p.2),(20,eB true)],(aH [(2,[.sl tn none,.sl te none]),(4,[.sl [] (some 1),.sl [] (some 3)]),(7,[fk s.gN,wy s.gE]),(10,p.1.c)] []))
def Oj(tn te:aS)(vE:List El):FSx⊕bZ->bZ
 |.inl s=>(.exit 0,Gy s.n vE vE.length++[(15,eB false)],FV tn te s)
 |.inr r=>r
def fsL{tn:aS}{r:FSx⊕bZ}(hl:vE.length<=1000)(h:bP (qF (Fh tn te vE)) vE.zipIdx ⟨[],[],0⟩=some r):
 aJ af gl (VW gl base) 72 EC (Gy 0 vE 0) (FV tn te ⟨[],[],0⟩)=some (Oj tn te vE r):=by
 have hL:=pg (P:=af) (gl:=gl) (Z7:=VW gl base) (n:=72) (l:=vE.zipIdx) (C:=EC) (B:=Ax) (f:=qF (Fh tn te vE))
  (TT:=λ i s=>Gy s.n vE i) (ST:=λ s=>FV tn te s)
  (X:=λ s=>(.exit 0,Gy s.n vE vE.length++[(15,eB false)],FV tn te s)) ?_ ?_ ?_ ⟨[],[],0⟩ r h
 .rw[hL];cases r<;>rfl
 .intro i s;rw[amN];simp+decide only[VB,lk,aB,↓reduceIte,Nat.reduceBEq,Nat.reduceAdd]
 .intro i s p hi Z;rw[rP]at hi;have D:((i:Int)<(vE.length:Int))=True:=dw (by omega);have L:vE[i]? =some vE[i]:=cW hi;have N:p=(vE[i],i):=by rw[Eu,L]at Z;simpa using Z.symm
  subst N;generalize hx:vE[i]=x at L⊢;have Y:(vE.map El.c)[i]? =some x.c:=by rw[bM,L];rfl
  unfold qF;simp only;by_cases hn:1000<s.n;.rw[ao hn];trivial
  rw[aj hn];have K:=gW (P:=af) (t:=3) (show i<=4611686018427387904 by omega);have J:=gW (P:=af) (t:=3) (show s.n<=4611686018427387904 by omega);by_cases F:x.ev= -1
  .rw[ao F];by_cases A:x.ed=true
   .rw[ao A];by_cases M:s.gE.length<=1000;.rw[ao M];have G:=ab1 (x:=⟨x.ty,x.fr,x.to⟩) (l:=s.gE) (by omega);simp only[Ed.c]at G;simp+decide only[Ax,VB,lk,aB,↓reduceIte,Nat.reduceBEq,Nat.reduceAdd,Gd,MG,Mg,UF,afS,SJ,Tl,D,aY Y,El.c,dw F,A,fD,fM,fO,ft,fo,eM,cm,dh,dC,dW,cM,G,K,J]
    rw[aj M];trivial
   rw[aj A];have A:x.ed=false:=by simpa using A
   by_cases M:s.gE=[]/\x.fr=0/\x.to=0/\s.gN.length<=1000;.rw[ao M];obtain⟨g1,g2,g3,g4⟩:=M;have G:=Iu (x:=x.ty) (l:=s.gN) (by omega);simp+decide only[Ax,VB,lk,aB,↓reduceIte,Nat.reduceBEq,Nat.reduceAdd,Gd,MG,Mg,UF,afM,adI,SJ,Tl,D,aY Y,El.c,dw F,A,g1,g2,g3,fD,fM,fO,ft,fo,eM,cm,dh,dC,dW,cM,G,K,J]
   rw[aj M];trivial
  rw[aj F];refine⟨?_,λ h=>by cases h⟩;simp+decide only[Ax,VB,lk,aB,↓reduceIte,Nat.reduceBEq,Nat.reduceAdd,Gd,MG,Mg,D,aY Y,El.c,b6 F,Fh]
 .intro s;refine⟨?_,λ h=>by cases h⟩;rw[rP];simp+decide only[Ax,VB,lk,aB,↓reduceIte,Nat.reduceBEq,Nat.reduceAdd,Gd,jT]
def w42{m:List El}{vV:List Oc}{tn te:aS}(G:∀y∈m,y.ev≠-1)(L:lN.length+lE.length<=1000)(J:(fc lN lE++m).length<=1000)
 (D:∀S,VW gl base 39 [.agg [aD lN,dY lE]] S=some (eI 0,S,false)) (A:∀S,VW gl base 40 [.agg [.sl tn none,.sl te none],.agg [aD lN,dY lE]] S=some (eB true,S,false)):
 VW gl base 50 [.agg [.sl tn none,.sl te none],.agg [.sl ((fc lN lE++m).map El.c) none,yb vV]] S=some (.aL [.agg [aD lN,dY lE],eI ((lN.length+lE.length:Nat):Int),eB true],S,false):=by
 refine iU (S':=[]) (w:=false) m42 rfl rfl ?_;obtain⟨r,F,K⟩:=auT (X:=Fh tn te (fc lN lE++m)) L G;have h:=fsL (gl:=gl) (base:=base) (tn:=tn) (te:=te) J F;have h:aJ af gl (VW gl base) 72 EC [(2,.ptr 0 2 0),(4,.ptr 0 4 0),(7,.ptr 0 7 0),(8,eI 0),(12,.sl ((fc lN lE++m).map El.c) none),(13,eI (fc lN lE++m).length),(14,eI 0)] (aH [(2,[.sl tn none,.sl te none]),(4,[.sl [] (some 1),.sl [] (some 3)]),(7,[.sl [] (some 1),.sl [] (some 3)])] [])=_:=h;rcases K with rfl|⟨p,rfl⟩
 .simp only[Oj,Gy,FV,zC,jS]at h;simp+decide only[bz,PO,VB,lk,aB,↓reduceIte,Nat.reduceBEq,Nat.reduceAdd,Pc,Rw,UN,Rr,SU,aF,h,aI CP,aI FX,D,A];rfl
 .simp only[Oj,Fh]at h;simp+decide only[bz,PO,VB,lk,aB,↓reduceIte,Nat.reduceBEq,Nat.reduceAdd,Pc,Rw,UN,Rr,SU,aF,h,aI CP,aI FX,D,A];rfl
end
section
open Go.Proofs
variable{N:aT}
variable{gl:aM}{base:eH}
def Al(base:eH):Prop:=bset 82=true/\∀a:List Int,a.length<=1000->base 82 [aD a]=some (fk a)
def cBt(st:aq)(src:List Tmp):Option (List ae)->Option VR
 |some cs=>some ⟨.agg cs,src,st,.pure⟩
 |none=>none
def uu{src:List Tmp}{cs:List ae}:cBt st src (some cs)=some ⟨.agg cs,src,st,.pure⟩:=rfl
def uC{Z7:cI}{T:VT}{d:Option Tmp}{z:List ae}{h:List (Nat×Nat)}{ps:List (Nat×bu)}:aN P gl Z7 T st d (.bt z h ps)=oB (lK gl T ps) λ l=>cBt st (wY ps) (kY h z l):=by
 simp only[aN];cases lK gl T ps;.rfl
 rename_i l;simp only[oB];cases kY h z l<;>rfl
def uR:wY []=[]:=rfl
def uy{x:bu}{l:List (Nat×bu)}:wY ((i,x)::l)=aB x++wY l:=rfl
def CB:cy af 82=true:=by kernel_rfl
def Si:cy af 42=true:=by kernel_rfl
def q34:cy af 43=true:=by kernel_rfl
def aaN{x:Oc}{D:Oc->List Oc->Option (List Oc)}(F:∀y s r,D y s=some r->s<+:r){p:El×Nat}(h:ph lN lE x D p s=some (.inl s')):s<+:s':=by
 unfold ph at h;split at h
 .split at h
  .split at h
   .split at h;.cases h;exact rQ _
    split at h;.rename_i r A;cases h;exact F _ _ _ A
    cases h
   cases h;exact rQ _
  cases h
 split at h
 .split at h
  .split at h;.cases h;exact rQ _
   split at h;.rename_i r A;cases h;exact F _ _ _ A
   cases h
  .cases h;exact rQ _
  cases h
 cases h
def Qz{f:α->List β->Option (List β⊕bZ)}:∀{l:List α} {s r:List β},(∀x s s',f x s=some (.inl s')->s<+:s')->bP f l s=some (.inl r)->s<+:r
 |[],s,r,_,h=>by cases h;exact rQ _
 |x::l,s,r,A,h=>by
  simp only[bP]at h;split at h;.rename_i F D;exact(A _ _ _ D).trans (Qz A h)
  .cases h
  cases h
def Ai:∀{f:Nat} {x:Oc} {s r:List Oc},mt N lN lE count f x s=some r->s<+:r:=by
 intro f;induction f with
 |zero=>intro x s r h;cases h
 |succ f A=>
  intro x s r h;simp only[mt]at h;split at h
  .split at h
   .rename_i z J;cases h;cases z;.exact rQ _
    exact Ii _ _
   cases h
  split at h;.rename_i G F;cases h;exact Qz (λ p s s' D=>aaN (λ _ _ _=>A) D) F
  cases h
open Classical in
noncomputable def uU{α β:Type}(f:α->List β->Option (List β⊕bZ))(s0:List β)(B:Nat)(x:α)(s:List β):Option (List β⊕bZ):=if s0<+:s/\(∀s',f x s=some (.inl s')->s'.length<=B)then f x s else none
def NL{f:α->List β->Option (List β⊕bZ)}{s0:List β}:∀{l:List α} {s r:List β},(∀x s s',f x s=some (.inl s')->s<+:s')->s0<+:s->r.length<=B->bP f l s=some (.inl r)->bP (uU f s0 B) l s=some (.inl r)
 |[],s,r,_,_,_,h=>h
 |x::l,s,r,D,h0,G,h=>by
  simp only[bP]at h⊢;split at h
  .rename_i J F;have e:uU f s0 B x s=f x s:=ao ⟨h0,λ s' A=>by rw[F]at A;cases A;exact fX (Qz D h).length_le G⟩
   rw[e,F];exact NL D (h0.trans (D _ _ _ F)) G h
  .cases h
  cases h
def jb(S:List bI)(p q:Nat)(s0 s:List Oc):List bI:=if s0.length<s.length then jv S p q [qy s]else S
def N4{s0:List Oc}(h:s0<+:s)(A:¬s0.length<s.length):s=s0:=(h.eq_of_length (by have:=h.length_le;omega)).symm
def anJ{s0:List Oc}:(jb S p q s0 s).length=S.length:=by
 unfold jb;split;.exact wi _ _ _ _
 rfl
def arB{s0:List Oc}(h:s0<+:s)(A:b7 S p q=some [qy s0]):b7 (jb S p q s0 s) p q=some [qy s]:=by
 unfold jb;split;.rw[BZ,ao ⟨rfl,rfl⟩,A];rfl
 rename_i D;rw[N4 h D];exact A
def ac0{s0:List Oc}{c:List ae}(h:¬(d=p/\k=q))(A:b7 S d k=some c):b7 (jb S p q s0 s) d k=some c:=by
 unfold jb;split;.rw[BZ,aj h];exact A
 exact A
def aty{s0:List Oc}(h:s0<+:s)(D:s<+:s'):jb (jb S p q s0 s) p q s s'=jb S p q s0 s':=by
 have G:=h.length_le;have F:=D.length_le;unfold jb;by_cases A:s.length<s'.length
 .rw[ao A,ao (show s0.length<s'.length by omega)];split;.exact LC
  rfl
 rw[aj A];have:=N4 D A;rw[this]
def alL{F:bI}{s0:List Oc}(h:p≠S.length):jb (F::S) p q s0 s=F::jb S p q s0 s:=by
 unfold jb;split;.simp only[jv,aj h]
 rfl
def ah3{s0:List Oc}(h:s0<+:s)(A:s<+:s'):(decide (s0.length<s.length)||decide (s.length<s'.length))=decide (s0.length<s'.length):=by have F:=h.length_le;have D:=A.length_le;rw[<-Bool.decide_or];exact decide_eq_decide.2 (by omega)
def ao9:jb S p q s s=S:=aj (by omega)
abbrev Gq(p q p2 q2:Nat):ae:=.fn 43 [.ptr p q 0,.ptr p2 q2 0]
structure sy (N:aT) (S:List bI) (d k p q p2 q2:Nat) (s:List Oc):Prop where
 vD:b7 S d k=some (N.c (some 5) (some 3) (some 1))
 np:b7 S p q=some [.ptr d k 0]
 fr:b7 S p2 q2=some [qy s]
def sy.ne(h:sy N S d k p q p2 q2 s):¬(d=p2/\k=q2)/\¬(p=p2/\q=q2):=by
 refine⟨?_,?_⟩
 .rintro⟨rfl,rfl⟩
  have:=h.vD.symm.trans h.fr;simp[aT.c]at this
 rintro⟨rfl,rfl⟩
 have:=h.np.symm.trans h.fr;simp at this
def sy.up(h:sy N S d k p q p2 q2 s)(F:bI):sy N (F::S) d k p q p2 q2 s:=⟨dm h.vD,dm h.np,dm h.fr⟩
def sy.jb(h:sy N S d k p q p2 q2 s)(A:s<+:s'):sy N (jb S p2 q2 s s') d k p q p2 q2 s':=⟨ac0 h.ne.1 h.vD,ac0 h.ne.2 h.np,arB A h.fr⟩
abbrev AF(S:List bI)(d k p q p2 q2:Nat)(N:aT)(count:Nat)(x:Oc)(i:Nat):VT:=[(0,.ptr d k 0),(2,eI count),(4,Gq p q p2 q2),(6,.ptr S.length 6 0),(8,.ptr S.length 8 0),(10,eI x.no.length),(11,eI x.ed.length),(42,.sl ((N.E.map El.c).take count) none),(43,eI count),(44,eI i)]
abbrev GG(S:List bI)(p2 q2:Nat)(lN:List Int)(lE:List Ed)(x:Oc)(s0 s:List Oc):aq:={w:=decide (s0.length<s.length),cur:=[(6,[aD lN,dY lE]),(8,x.c)],up:=jb S p2 q2 s0 s}
def mtL(hC:Al base){N:aT}{S:List bI}{d k p q p2 q2:Nat}{s0:List Oc}(hh:sy N S d k p q p2 q2 s0){count:Nat}(hc:count<=N.E.length)(hE:N.E.length<=1000){lN:List Int}{lE:List Ed}(aw:lN.length<=1000)(ax:lE.length<=1000){x:Oc}(ap:x.no.length<=lN.length)(ar:x.ed.length<=lE.length){f:Nat}
 (ih:∀{x:Oc} {s s':List Oc} {U:List bI},sy N U d k p q p2 q2 s->x.no.length<=lN.length->x.ed.length<=lE.length->s'.length<=1000000000->mt N lN lE count f x s=some s'->VW gl base 42 [.ptr d k 0,.agg [aD lN,dY lE],eI count,.agg x.c,Gq p q p2 q2] U=some (.aL [],jb U p2 q2 s s',decide (s.length<s'.length)))
 {r:List Oc} (h:bP (uU (ph lN lE x (mt N lN lE count f)) s0 1000000000) (N.E.take count).zipIdx s0=some (.inl r)):
 aJ af gl (VW gl base) 113 GP (AF S d k p q p2 q2 N count x 0) (GG S p2 q2 lN lE x s0 s0)=some (.exit 0,AF S d k p q p2 q2 N count x count++[(45,eB false)],GG S p2 q2 lN lE x s0 r):=by
 have ai:(N.E.take count).zipIdx.length=count:=by rw[rP,n8];omega
 have hL:=pg (P:=af) (gl:=gl) (Z7:=VW gl base) (n:=113) (l:=(N.E.take count).zipIdx) (C:=GP) (B:=uQ) (f:=uU (ph lN lE x (mt N lN lE count f)) s0 1000000000)
  (TT:=λ i _=>AF S d k p q p2 q2 N count x i) (ST:=λ s=>GG S p2 q2 lN lE x s0 s)
  (X:=λ s=>(.exit 0,AF S d k p q p2 q2 N count x count++[(45,eB false)],GG S p2 q2 lN lE x s0 s)) ?_ ?_ ?_ s0 _ h
 .exact hL
 .intro i s;rw[ari];simp+decide only[VB,lk,aB,↓reduceIte,Nat.reduceBEq,Nat.reduceAdd,AF]
 .intro i s pe hi hp;rw[ai]at hi;have av:i<N.E.length:=by omega
  obtain⟨y,hy⟩:∃y,N.E[i]? =some y:=⟨_,cW av⟩;have an:(N.E.take count)[i]? =some y:=by rw[qw,ao hi];exact hy
  have au:pe=(y,i):=by rw[Eu,an]at hp;simpa using hp.symm
  subst au;have he:((N.E.map El.c).take count)[i]? =some y.c:=by rw[qw,ao hi,bM,hy];rfl
  have A:((i:Int)<(count:Int))=True:=dw (by omega);by_cases hg:s0<+:s/\(∀s',ph lN lE x (mt N lN lE count f) (y,i) s=some (.inl s')->s'.length<=1000000000)
  case neg=>rw[uU,aj hg];trivial
  rw[uU,ao hg];have hU:=hh.jb hg.1;have M:(jb S p2 q2 s0 s).length=S.length:=anJ;have gd:(d=S.length)=False:=b6 (by have:=cY hh.vD;omega);have am:p2≠S.length:=by have:=cY hh.fr;omega
  have Y:=gW (P:=af) (t:=3) (show i<=4611686018427387904 by omega);have G:∀S,VW gl base 82 [aD x.no] S=some (fk x.no,S,false):=λ S=>wU hC.1 (hC.2 _ (by omega)) rfl
  have D:∀S,VW gl base 82 [aD x.ed] S=some (fk x.ed,S,false):=λ S=>wU hC.1 (hC.2 _ (by omega)) rfl
  have ac:(d==S.length)=false:=by have:=cY hh.vD;simp;omega
  have ab:(p==S.length)=false:=by have:=cY hh.np;simp;omega
  have J:(p2==S.length)=false:=by simp;exact am
  have step:∀{x':Oc} {s':List Oc},x'.no.length<=lN.length->x'.ed.length<=lE.length->s'.length<=1000000000->mt N lN lE count f x' s=some s'->∀F,VW gl base 42 [.ptr d k 0,.agg [aD lN,dY lE],eI count,.agg x'.c,Gq p q p2 q2] (F::jb S p2 q2 s0 s)=some (.aL [],F::jb S p2 q2 s0 s',decide (s.length<s'.length)):=by intro x' s' a1 a2 a3 a4 F;rw[ih (hU.up F) a1 a2 a3 a4,alL (by rw[M];exact am),aty hg.1 (Ai a4)]
  unfold ph;simp only;by_cases hl:x.no.length<lN.length
  .rw[ao hl];have K:((x.no.length:Int)<(lN.length:Int))=True:=dw (by omega);obtain⟨kind,hk⟩:∃kind,lN[x.no.length]? =some kind:=⟨_,cW hl⟩;rw[hk];have L:(lN.map λ n=>[eI n])[x.no.length]? =some [eI kind]:=by rw[bM,hk];rfl
   have ag:=λ S=>w69 (gl:=gl) (base:=base) (y:=y) (kind:=kind) (S:=S)
   have ad:∀S,VW gl base 8 [aD x.no,eI i] S=some (eB (fW x.no i),S,false):=λ S=>uZ (by omega)
   simp only[El.c]at ag;cases Z:w9 y kind;.simp only[Z,rI,qv];simp+decide only[uQ,VB,lk,aB,↓reduceIte,Nat.reduceBEq,Nat.reduceAdd,yM,Ak,Bv,Ah,Bw,A,aY he,El.c,Oc.c,M,gd,ac,ab,J,aI CB,G,D,uC,uu,uR,uy,ft,fo,eM,cm,dh,dC,dW,cM,aF,Y,L2,K,aY L,aI Dm,ag,Z];rfl
   cases hi:fW x.no i
   .simp only[Z,hi,jz,rI,qv];cases hm:mt N lN lE count f ⟨x.ru,x.no++[(i:Int)],x.ed⟩ s;.trivial
    rename_i s';simp only;have ak:s'.length<=1000000000:=hg.2 s' (by simp only[ph,ao hl,hk,Z,hi,jz,rI,qv,hm]);have hr:=step (x':=⟨x.ru,x.no++[(i:Int)],x.ed⟩) (by simp;omega) ar ak hm;have al:=Iu (x:=(i:Int)) (l:=x.no) (by omega);have hw:=ah3 hg.1 (Ai hm);simp only[Oc.c]at hr;simp+decide only[uQ,VB,lk,aB,↓reduceIte,Nat.reduceBEq,Nat.reduceAdd,yM,Ak,Bv,Ah,Bw,A,aY he,El.c,Oc.c,M,gd,ac,ab,J,aI CB,G,D,uC,uu,uR,uy,ft,fo,eM,cm,dh,dC,dW,cM,aF,Y,L2,aez,Rb,K,aY L,aI Dm,ag,Z,aI mU,ad,hi,fD,al,aI Si,hr,hw];rfl
   simp only[Z,hi,jz];simp+decide only[uQ,VB,lk,aB,↓reduceIte,Nat.reduceBEq,Nat.reduceAdd,yM,Ak,Bv,Ah,Bw,A,aY he,El.c,Oc.c,M,gd,ac,ab,J,aI CB,G,D,uC,uu,uR,uy,ft,fo,eM,cm,dh,dC,dW,cM,aF,Y,L2,K,aY L,aI Dm,ag,Z,aI mU,ad,hi];rfl
  rw[aj hl];have K:((x.no.length:Int)<(lN.length:Int))=False:=b6 (by omega);cases hk:lE[x.ed.length]?;.trivial
  rename_i e;simp only;have L:(lE.map Ed.c)[x.ed.length]? =some e.c:=by rw[bM,hk];rfl
  have ad:∀S,VW gl base 8 [aD x.ed,eI i] S=some (eB (fW x.ed i),S,false):=λ S=>uZ (by omega)
  cases Z:wb y e x.no;.trivial
  rename_i bf;have ae:=λ S=>Vb (gl:=gl) (base:=base) (S:=S) Z
  simp only[El.c,Ed.c]at ae;cases bf;.simp only[Z];simp+decide only[uQ,VB,lk,aB,↓reduceIte,Nat.reduceBEq,Nat.reduceAdd,yM,Ak,Bv,Ah,Bw,A,aY he,El.c,Oc.c,M,gd,ac,ab,J,aI CB,G,D,uC,uu,uR,uy,ft,fo,eM,cm,dh,dC,dW,cM,aF,Y,L1,K,aY L,Ed.c,aI Dl,ae];rfl
  cases hi:fW x.ed i
  .simp only[Z,hi,rI,qv];cases hm:mt N lN lE count f ⟨x.ru,x.no,x.ed++[(i:Int)]⟩ s;.trivial
   rename_i s';simp only;have ak:s'.length<=1000000000:=hg.2 s' (by simp only[ph,aj hl,hk,Z,hi,rI,qv,hm]);have ay:x.ed.length<lE.length:=by rw[mR]at hk;exact hk.1
   have hr:=step (x':=⟨x.ru,x.no,x.ed++[(i:Int)]⟩) ap (by simp;omega) ak hm;have al:=Iu (x:=(i:Int)) (l:=x.ed) (by omega);have hw:=ah3 hg.1 (Ai hm);simp only[Oc.c]at hr;simp+decide only[uQ,VB,lk,aB,↓reduceIte,Nat.reduceBEq,Nat.reduceAdd,yM,Ak,Bv,Ah,Bw,A,aY he,El.c,Oc.c,M,gd,ac,ab,J,aI CB,G,D,uC,uu,uR,uy,ft,fo,eM,cm,dh,dC,dW,cM,aF,Y,L1,ac1,Rb,K,aY L,Ed.c,aI Dl,ae,aI mU,ad,hi,fD,al,aI Si,hr,hw];rfl
  simp only[Z,hi,jz];simp+decide only[uQ,VB,lk,aB,↓reduceIte,Nat.reduceBEq,Nat.reduceAdd,yM,Ak,Bv,Ah,Bw,A,aY he,El.c,Oc.c,M,gd,ac,ab,J,aI CB,G,D,uC,uu,uR,uy,ft,fo,eM,cm,dh,dC,dW,cM,aF,Y,L1,K,aY L,Ed.c,aI Dl,ae,aI mU,ad,hi];rfl
 .intro s;refine⟨?_,λ h=>by cases h⟩;rw[ai];simp+decide only[uQ,VB,lk,aB,↓reduceIte,Nat.reduceBEq,Nat.reduceAdd,yM,jT,AF]
def Mo{l:List El}:fR 5 (l.map El.c)=true:=by
 induction l with
 |nil=>rfl
 |cons a l h=>exact h
def w33(hB:kK base)(hT:nD gl base)(hC:Al base)(hb:NB N)(hV:N.V.length<=1000000)(hc:count<=N.E.length)(hE:N.E.length<=1000)(ak:lN.length<=1000)(al:lE.length<=1000):
 ∀{f:Nat} {x:Oc} {s s':List Oc} {U:List bI},sy N U d k p q p2 q2 s->x.no.length<=lN.length->x.ed.length<=lE.length->s'.length<=1000000000->mt N lN lE count f x s=some s'->VW gl base 42 [.ptr d k 0,.agg [aD lN,dY lE],eI count,.agg x.c,Gq p q p2 q2] U=some (.aL [],jb U p2 q2 s s',decide (s.length<s'.length)):=by
 intro f;induction f with
 |zero=>intro x s s' U _ _ _ _ h;cases h
 |succ f ih=>
  intro x s s' U G ad ae ai h;have M:=Ai h;have gd:(d=U.length)=False:=b6 (by have:=cY G.vD;omega);have K:(d==U.length)=false:=by have:=cY G.vD;simp;omega
  have J:(p==U.length)=false:=by have:=cY G.np;simp;omega
  have ac:p2≠U.length:=by have:=cY G.fr;omega
  have A:(p2==U.length)=false:=by simp;exact ac
  simp only[mt]at h;refine jG m33 rfl rfl ?_;by_cases Y:x.no.length=lN.length/\x.ed.length=lE.length
  .rw[ao Y]at h;have e1:((x.no.length:Int)=(lN.length:Int))=True:=dw (by omega);have e2:((x.ed.length:Int)=(lE.length:Int))=True:=dw (by omega);split at h
   .rename_i z hz;cases h
    have ab:∀F,VW gl base 43 [.agg x.c,.ptr p q 0,.ptr p2 q2 0] (F::U)=some (.aL [],F::jb U p2 q2 s (if z then s++[x]else s),decide (s.length<(if z then s++[x]else s).length)):=by
     intro F;have hu:=G.up F;rw[w34 hB hT hb hu.vD hV hu.np hu.fr (by have:=M.length_le;omega) (by omega) (by omega) hz];cases z;.simp[jb]
     have hl:s.length<(s++[x]).length:=by simp
     simp only[jz,jb,ao hl,dV hl];simp only[jv,aj ac]
    simp only[Oc.c]at ab;simp+decide only[bz,I8,VB,lk,aB,↓reduceIte,Nat.reduceBEq,Nat.reduceAdd,Mk,Mq,LR,Zn,Oc.c,gd,K,J,A,aF,e1,e2,aI q34,ab];rfl
   cases h
  rw[aj Y]at h;split at h
  .rename_i r hr;cases h;have Z:=mtL hC G hc hE ak al ad ae (f:=f) (λ a b c d e=>ih a b c d e) (NL (λ _ _ _ he=>aaN (λ _ _ _=>Ai) he) (rQ _) ai hr);have L:nf (some 5) false (.sl (N.E.map El.c) none) none (some (.sc (.int .i64 (count:Int))))=some (.sl ((N.E.map El.c).take count) none):=EU (by rw[aF];exact hc) Mo;have D:((N.E.map El.c).take count).length=count:=by rw[n8,aF];omega
   have ag:decide (s.length<s.length)=false:=by simp
   simp only[AF,GG,ao9,ag,Oc.c]at Z;have Z:aJ af gl (VW gl base) 113 GP [(0,.ptr d k 0),(2,eI count),(4,Gq p q p2 q2),(6,.ptr U.length 6 0),(8,.ptr U.length 8 0),(10,eI x.no.length),(11,eI x.ed.length),(42,.sl ((N.E.map El.c).take count) none),(43,eI count),(44,eI 0)] _=_:=Z;by_cases h1:x.no.length=lN.length;.have e1:((x.no.length:Int)=(lN.length:Int))=True:=dw (by omega);have e2:((x.ed.length:Int)=(lE.length:Int))=False:=b6 (by omega);simp+decide only[bz,I8,VB,lk,aB,↓reduceIte,Nat.reduceBEq,Nat.reduceAdd,Mk,Mq,LR,Qd,Oc.c,gd,K,J,A,aF,e1,e2,G.vD,aT.c,L,D,Z];rfl
   have e1:((x.no.length:Int)=(lN.length:Int))=False:=b6 (by omega);simp+decide only[bz,I8,VB,lk,aB,↓reduceIte,Nat.reduceBEq,Nat.reduceAdd,Mk,Mq,LR,Qd,Oc.c,gd,K,J,A,aF,e1,G.vD,aT.c,L,D,Z];rfl
  cases h
end
section
open Go.Proofs
variable{l:List Bool}
variable{gl:aM}
def fF:Nat->List Bool->List Int->List Int
 |_,[],o=>o
 |i,b::l,o=>fF (i+1) l (if b then o++[(i:Int)]else o)
theorem WB:∀{l:List Bool} {i:Nat} {o:List Int},(fF i l o).length<=o.length+l.length
 |[],i,o=>be _
 |k::l,i,o=>by
  simp only[fF];refine fX WB ?_;split;.simp only[dM,cD,dG];omega
  simp only[cD];omega
def aeH:∀{l:List Bool} {i:Nat} {o:List Int} {x:Int},x∈fF i l o->x∈o\/((i:Int)<=x/\x<i+l.length)
 |[],i,o,x,h=>.inl h
 |k::l,i,o,x,h=>by
  simp only[fF]at h;rcases aeH h with h|⟨D,A⟩
  .split at h
   .rcases jA.1 h with h|h
    .exact .inl h
    rw[dp]at h;right;simp only[cD];omega
   exact .inl h
  right;simp only[cD];omega
def GJ(l:List Bool)(i:Nat)(o:List Int):Option (List Int⊕bZ):=if o.length<=i then(match l[i]?with|some b=>some (.inl (if b then o++[(i:Int)]else o))|none=>none)else none
def aoO:∀k i o,i+k=l.length->o.length<=i->sJ (GJ l) k i o=some (.inl (fF i (l.drop i) o)):=by
 intro k;induction k with
 |zero=>
  intro i o hi _;rw[Nw (by omega)];rfl
 |succ k A=>
  intro i o hi D;have h:i<l.length:=by omega
  rw[rL h];simp only[sJ,GJ,ao D,cW h,fF];refine A (i+1) _ (by omega) ?_;split;.simp only[dM,cD,dG];omega
  omega
abbrev J1(l:List Bool):ae:=.sl (l.map λ b=>[eB b]) none
def UJ{Z7:cI}(N:l.length<=1000):
 bz af gl Z7 F49 [J1 l] S=some (aD (fF 0 l []),S,false):=by
 have M:=tP (P:=af) (gl:=gl) (Z7:=Z7) (n:=20) (len:=l.length) (C:=MQ) (B:=DJ) (f:=GJ l)
  (TT:=λ i o=>[(0,J1 l),(3,fk o),(4,eI i)]) (ST:=λ _=>(aH [] S))
  (X:=λ o=>(.exit 0,[(0,J1 l),(3,fk o),(4,eI l.length),(8,eB false)],(aH [] S))) ?_ ?_ ?_ l.length 0 [] (.inl (fF 0 l [])) (by omega) (aoO l.length 0 [] (by omega) (be _))
 .have G:aJ af gl Z7 20 MQ [(0,J1 l),(3,.sl [] (some 1)),(4,eI 0)] (aH [] S)=_:=M;simp+decide only[bz,F49,VB,lk,aB,↓reduceIte,Nat.reduceBEq,Nat.reduceAdd,aae,abt,Yc,YR,aF,G]
 .intro i s;rw[awi];simp+decide only[VB,lk,aB,↓reduceIte,Nat.reduceBEq,Nat.reduceAdd]
 .intro i s hi;have A:((i:Int)<(l.length:Int))=True:=dw (by omega);have J:l[i]? =some l[i]:=cW hi;have D:(l.map λ n=>[eB n])[i]? =some [eB l[i]]:=by rw[bM,J];rfl
  by_cases K:s.length<=i
  .simp only[GJ,ao K,J];have F:∀st,iG st 1 (fk s) (.sl [[eI i]] (some 1))=some (fk (s++[(i:Int)])):=λ st=>by rw[<-zZ];exact lZ (by simp only[aF,cD,dG];omega) rfl
   cases L:l[i];.rw[L]at D;simp+decide only[DJ,VB,lk,aB,↓reduceIte,Nat.reduceBEq,Nat.reduceAdd,Lv,P9,N6,O5,A,aY D,gW (show i<=4611686018427387904 by omega),aF]
   rw[L]at D;simp+decide only[DJ,VB,lk,aB,↓reduceIte,Nat.reduceBEq,Nat.reduceAdd,Lv,P9,N6,O5,A,aY D,gW (show i<=4611686018427387904 by omega),aF,fD,F]
  simp only[GJ,aj K]
 .intro s;refine⟨?_,λ h=>by cases h⟩;simp+decide only[DJ,VB,lk,aB,↓reduceIte,Nat.reduceBEq,Nat.reduceAdd,Lv,jT,aF]
end
section
open Go.Proofs
variable{s:aa}
variable{ng:Nat}{Z7:aW}
def eU(l:List Bool):List aa:=l.map aa.bool
theorem Bf(l:List Bool):(eU l).length=l.length:=by simp[eU]
def am9(l:List Bool):(eU l).all aa.eh=true:=ij.2 λ a h=>by obtain⟨b,_,rfl⟩:=eK.1 h;rfl
def tN:Tryz.prog.info? 4=some Tryz.t4:=by kernel_rfl
def aa7{c:aa}(h:bq g v off 1=some [c]):de af g 4 (.ptr v off)=some c:=by simp only[de,Tryz.underlying4,tN,h];rfl
def aoV{H:ah}{k:Int}:jM af (alloc H [.int .i64 k] true 1) [45,45] [s,.slice H.next 0 1 none]=gm (alloc H [.int .i64 k] true 1) 1 8 s 1 [.int .i64 k]:=by refine KE (x:=.slice H.next 0 1 none) rfl ?_;have h:=(ic H [.int .i64 k] true 1).row;simp+decide only[eR,bq,h];rfl
theorem aw4{H:ah}(g:Good H){s:aa}{bs:List Bool}(hs:jd H.objs.get 1 bs.length s (eU bs))(hb:bs.length<=1000):
 ∃r,fI af ng Z7 63 [s] H r/\∃fm,cj r.2 1 (fF 0 bs []).length r.1 (cT (fF 0 bs [])) fm/\kM H fm/\Fr none H r.2/\Good r.2:=by
 refine qn Tryz.func63 rfl ?_;show W af ng Z7 20 _ _ _ _;have a0:aw (fH [s] 0 .nil) 0=s:=rfl;refine aO (bW (H':=H) (λ T=>True) ?_ ?_)
 ·(repeat ((first|apply bA (br rfl)|apply bO rfl rfl rfl);simp+decide only[AB,a0];rfl))
  exact bF trivial
 intro T1 _ k1;have b0:=(k1 0 rfl).trans a0;refine aO (bW (H':=H) (λ T=>aw T 3=.ai) ?_ ?_)
 ·(repeat ((first|apply bA (br rfl)|apply bO rfl rfl rfl);simp+decide only[AB,b0];rfl))
  exact bF (by simp+decide only[AB])
 intro T2 t3 k2;have c0:=(k2 0 rfl).trans b0;refine aO (aO (bW (H':=H) (λ T=>aw T 4=.int .i64 (Int.ofNat 0)) ?_ ?_))
 ·(repeat ((first|apply bA (br rfl)|apply bO rfl rfl rfl);simp+decide only[AB,c0];rfl))
  exact bF (by simp+decide only[AB];rfl)
 intro T3 t4 k3;have d0:=(k3 0 rfl).trans c0;have d3:=(k3 3 rfl).trans t3;refine ku (tj (λ m T K=>∃(i:Nat) (o:List Int) (x:aa) (fm:Option Nat),m+i=bs.length/\fF i (bs.drop i) o=fF 0 bs []/\o.length<=i/\cj K 1 o.length x (cT o) fm/\kM H fm/\Fr none H K/\Good K/\aw T 0=s/\aw T 3=x/\aw T 4=.int .i64 (Int.ofNat i)) ?_ bs.length _ _ ⟨0,[],.ai,none,by omega,rfl,be _,⟨by simp[cT],.inl ⟨rfl,rfl,rfl⟩⟩,λ f e=>(by cases e),Fr.refl _ _,g,d0,d3,t4⟩)
 rintro m T K ⟨i,o,x,fm,hm,h,ak,ho,G,A,gk,u0,u3,u4⟩
 have Y:=hs.keep A;refine aO (aO (bW (H':=K) (λ T=>aw T 8=.bool (decide (Int.ofNat i<Int.ofNat bs.length))) ?_ ?_))
 ·(repeat ((first|apply bA (br rfl)|apply bO rfl rfl rfl);simp+decide only[AB,u0,u4,Y.dD Tryz.underlying110];rfl))
  exact bF (by simp+decide only[AB])
 intro T4 t8 k4;have v0:=(k4 0 rfl).trans u0;have v3:=(k4 3 rfl).trans u3;have v4:=(k4 4 rfl).trans u4;refine jZ (by rw[mc,t8]) (λ F=>?_) (λ Z=>?_)
 .have F:i<bs.length:=by grind
  have hx:bs[i]? =some bs[i]:=cW F;have M:bs.drop i=bs[i]::bs.drop (i+1):=rL F;rw[M]at h;simp only[fF]at h;obtain⟨v,off,ac,_,D⟩:=Y.index F Tryz.underlying110 tN rfl;have D:=D 0 (.bool bs[i]) (by omega) (by simp[eU,hx]);rw[nY]at D;have ld:=aa7 D;refine kH (aO (ku (aO (bW (H':=K) (λ T=>aw T 14=.bool bs[i]) ?_ ?_))))
  ·(repeat ((first|apply bA (br rfl)|apply bO rfl rfl rfl);simp+decide only[AB,v0,v4,ac,ld];rfl))
   exact bF (by simp+decide only[AB])
  intro T5 ab k5;have w0:=(k5 0 rfl).trans v0;have w3:=(k5 3 rfl).trans v3;have w4:=(k5 4 rfl).trans v4;have J:∀{t:TypeId},cV af .add t (.int .i64 (Int.ofNat i)) (.int .i64 1)=some (.int .i64 (Int.ofNat (i+1))):=wu (by omega);refine jZ (by rw[mc,ab]) (λ ad=>?_) (λ ae=>?_)
  .rw[ao ad]at h;have g1:=gD gk [.int .i64 (Int.ofNat i)] true 1;have f1:=gH gk [.int .i64 (Int.ofNat i)] true 1;obtain⟨s2,K2,ag,q1,q2,q3,q4,q5⟩:=Cs (k:=1) (bytes:=8) (new:=[.int .i64 (Int.ofNat i)]) g1 (by decide) (ho.B7 f1) rfl rfl (by unfold eJ;omega) (by unfold eJ;omega);have L:=aoV (H:=K) (s:=x) (k:=Int.ofNat i);rw[q1]at L;refine bW (H':=K2) (λ T=>aw T 3=s2) ?_ ?_
   ·(repeat ((first|apply bA (br rfl)|apply bO rfl rfl rfl);simp+decide only[AB,w3,w4,Wb,L];rfl))
    exact bF (by simp+decide only[AB])
   intro T6 t3 k6;have x4:=(k6 4 rfl).trans w4;refine bW (H':=K2) (λ T=>aw T 4=.int .i64 (Int.ofNat (i+1))) ?_ ?_
   ·(repeat ((first|apply bA (br rfl)|apply bO rfl rfl rfl);simp+decide only[AB,x4,J];rfl))
    exact bF (by simp+decide only[AB])
   intro T7 t4 N;refine⟨m- 1,by omega,i+1,o++[(i:Int)],s2,ag,by omega,h,by simp;omega,?_,?_,(A.trans f1).jE g q3 G,q4,(N 0 rfl).trans ((k6 0 rfl).trans w0),(N 3 rfl).trans t3,t4⟩;.grind[UQ]
   rcases q5 with rfl|⟨f,h1,rfl⟩
   .exact G
   intro f' e;cases e;have:=A.next;grind[alloc]
  rw[aj (by simp[ae])]at h;refine kH (bW (H':=K) (λ T=>aw T 4=.int .i64 (Int.ofNat (i+1))) ?_ ?_)
  ·(repeat ((first|apply bA (br rfl)|apply bO rfl rfl rfl);simp+decide only[AB,w4,J];rfl))
   exact bF (by simp+decide only[AB])
  intro T7 t4 N;exact⟨m- 1,by omega,i+1,o,x,fm,by omega,h,by omega,ho,G,A,gk,(N 0 rfl).trans w0,(N 3 rfl).trans w3,t4⟩
 .have Z:i=bs.length:=by grind[of_decide_eq_false]
  subst Z;rw[List.drop_length]at h;have h:o=fF 0 bs []:=h;subst h;refine tX ?_;show W af ng Z7 20 _ _ _ _;refine aO (bW (H':=K) (λ T=>aw T 2=x) ?_ ?_)
  ·(repeat ((first|apply bA (br rfl)|apply bO rfl rfl rfl);simp+decide only[AB,v3];rfl))
   exact bF (by simp+decide only[AB])
  intro T8 t2 _;exact oR ⟨by simp,[_],rfl,fm,by grind[jJ],G,A,gk⟩
end
section
open Go.Proofs
variable{a b s:aa}
variable{ng:Nat}{Z7:aW}
def YQ(Z7:aW):Prop:=∀(H:ah) (s:aa) (bs:List Bool),Good H->jd H.objs.get 1 bs.length s (eU bs)->bs.length<=1000->∃r,Z7 63 [s] H=some r/\∃fm,cj r.2 1 (fF 0 bs []).length r.1 (cT (fF 0 bs [])) fm/\kM H fm/\Fr none H r.2/\Good r.2
def apN{l:List aa}{H:ah}:ir af Z7 63 l H=Z7 63 l H:=by simp only[ir,Tryz.func63];rfl
def ZE:Tryz.prog.info? 64=some Tryz.t64:=by kernel_rfl
def QN:Tryz.prog.info? 55=some Tryz.t55:=by kernel_rfl
def ap9:Tryz.prog.info? 108=some Tryz.t108:=by kernel_rfl
def ZT:gv af 57 (.ptr v o) 1=some (.ptr v (o+1)):=by have h:Nat.beq Tryz.t55.size 0=false:=rfl;simp only[gv,Tryz.underlying57,DY,QN,h];rfl
def auZ:gv af 108 (.ptr v o) 1=some (.ptr v (o+1)):=by have h:Nat.beq Tryz.t3.size 0=false:=rfl;simp only[gv,Tryz.underlying108,rB,h];rfl
def akk:gv af 108 (.ptr v o) 2=some (.ptr v (o+2)):=by have h:Nat.beq Tryz.t3.size 0=false:=rfl;simp only[gv,Tryz.underlying108,rB,h];rfl
def WA{c:aa}(h:bq g v off 1=some [c]):de af g 55 (.ptr v off)=some c:=by simp only[de,Tryz.underlying55,QN,h];rfl
def Ui:ig af 64=some (.agg [.ai,.ai]):=by kernel_rfl
def av9:nM af 110 0 (some [])=some ([],1,some 0):=by kernel_rfl
def aoF:∃z,ig af 4=some z/\z.cells.length=1:=⟨.bool false,by kernel_rfl,rfl⟩
def aoR{H:ah}{x:aa}{new:List aa}(D:lenOf x=some n)(F:eR H.objs.get 1 n x=some new):jM af H [110,110] [s,x]=gm H 1 1 s n new:=by obtain⟨z,A,h⟩:=aoF;have J:Tryz.t4.size=1:=rfl;have G:Tryz.t4.bytes=1:=rfl;simp+decide only[jM,Tryz.underlying110,tN,A,h,J,G,D,F]
def Fc{H:ah}{b:Bool}:dJ af H 4 (.ptr v off) (.bool b)=gM H v off [.bool b]:=by simp only[dJ,tN];rfl
def agu{H:ah}:dJ af H 64 (.ptr v off) (.agg [a,b])=gM H v off [a,b]:=by simp only[dJ,ZE];rfl
theorem abd(h:bq g v off 2=some [a,b]):de af g 64 (.ptr v off)=some (.agg [a,b]):=by have A:Tryz.t64.size=2:=rfl;simp only[de,Tryz.underlying64,ZE,A,h];rfl
def MM(h:a.eh=true):a.cells=[a]:=by cases a<;>first|rfl|cases h
def akI(F:a.eh=true)(D:b.eh=true):lP af 64 (some [(0,a),(1,b)])=some (.agg [a,b]):=by have ca:a.cells=[a]:=MM F;have G:b.cells=[b]:=MM D;have A:Tryz.t45.size=1:=rfl;have h:(aa.agg [.ai,.ai]).cells=[.ai,.ai]:=rfl;simp+decide only[lP,Ui,Tryz.underlying64,fill,C0,DY,ca,G,h,ep,aiB,aiC,A,ug,Vr,Option.isSome_some,aiz,cD,dG,dh,dC,cM,dW,jS,zC]
def Y6:(eU (List.replicate n true)).set i (.bool true)=eU (List.replicate n true):=by
 have:eU (List.replicate n true)=List.replicate n (.bool true):=by simp[eU]
 rw[this,List.set_replicate_self]
def cj.one{H:ah}{cs:List aa}(h:cj H sz n s cs fm):s.eh=true:=by obtain⟨_,⟨rfl,_⟩|⟨v,r,rfl,_⟩⟩:=h<;>rfl
theorem apM(UJ:YQ Z7){H:ah}(g:Good H)(hI:cu I H.objs.get){bs:List Bool}{G D s1 s2:aa}(hE:RP I (.sl (lE.map Ed.c) none) D)(oN:G.eh=true)(oE:D.eh=true)
 (h1:jd H.objs.get 1 n s1 (eU (List.replicate n true))) (h2:jd H.objs.get 1 bs.length s2 (eU bs)) (hn:n<=1000) (hb:bs.length<=lE.length) (aT:lE.length<=1000) (aI:∀e∈lE,(0<=e.fr/\e.fr<n)/\(0<=e.to/\e.to<n)):
 ∃r,fI af ng Z7 33 [.agg [G,D],s1,s2] H r/\Fr none H r.2/\Good r.2/\∃a b fa fb,r.1=.agg [a,b]/\cj r.2 1 (fF 0 (List.replicate n true) []).length a (cT (fF 0 (List.replicate n true) [])) fa/\kM H fa/\cj r.2 1 (fF 0 bs []).length b (cT (fF 0 bs [])) fb/\kM H fb:=by
 refine qn Tryz.func33 rfl ?_;show W af ng Z7 43 _ _ _ _;have a0:aw (fH [.agg [G,D],s1,s2] 0 .nil) 0=.agg [G,D]:=rfl;have a1:aw (fH [.agg [G,D],s1,s2] 0 .nil) 1=s1:=rfl;have a2:aw (fH [.agg [G,D],s1,s2] 0 .nil) 2=s2:=rfl;have M:(aa.agg [G,D]).cells=[G,D]:=rfl;have aK:(aa.agg [.ai,.ai]).cells=[.ai,.ai]:=rfl;have f0:=gH g [G,D] true 1;have g0:=gD g [G,D] true 1;have f1:=gH g0 [.ai,.ai] true 1;have g1:=gD g0 [.ai,.ai] true 1;have o3:=(ic H [G,D] true 1).keep f1 (by simp);have o6:=ic (alloc H [G,D] true 1) [.ai,.ai] true 1;generalize au:alloc (alloc H [G,D] true 1) [.ai,.ai] true 1=F at*;have aR:F.next=H.next+2:=by rw[<-au];rfl
 have ak:(alloc H [G,D] true 1).next=H.next+1:=rfl
 rw[ak]at o6;refine aO (bW (H':=F) (λ T=>aw T 3=.ptr H.next 0/\aw T 6=.ptr (H.next+1) 0) ?_ ?_)
 ·(repeat ((first|apply bA (br rfl)|apply bO rfl rfl rfl);simp+decide only[AB,a0,M,Ui,aK,au,ak];rfl))
  exact bF (by simp+decide only[AB,vI])
 rintro T1 ⟨t3,t6⟩ k1
 have b1:=(k1 1 rfl).trans a1;have b2:=(k1 2 rfl).trans a2;have gl:=gD g1 [] true 1;have fl:=gH g1 [] true 1;have ol:cj (alloc F [] true 1) 1 0 (.slice F.next 0 0 none) [] (some F.next):=⟨rfl,.inr ⟨_,_,rfl,ic F [] true 1,rfl,by simp,by simp,rfl⟩⟩;have aL:(eU (List.replicate n true)).length=n:=by rw[Bf,om]
 obtain⟨x,K0,fm0,q1,q2,q3,q4,q5⟩:=Cs (k:=n) (bytes:=1) (new:=eU (List.replicate n true)) gl (by decide) ol (by rw[aL];omega) (am9 _) (by unfold eJ;omega) (by unfold eJ;omega);rw[iX,jS]at q2;have av:jd (alloc F [] true 1).objs.get 1 n s1 (eU (List.replicate n true)):=((h1.keep f0).keep f1).keep fl;have Y:=aoR (s:=.slice F.next 0 0 none) av.lenOf av.cells;rw[q1]at Y;have ax:kM F (some F.next):=λ f e=>(by cases e;exact be _)
 have aP:Fr none F K0:=fl.jE g1 q3 ax
 have ay:kM F fm0:=by
  rcases q5 with rfl|⟨f,h1,rfl⟩
  .exact ax
  intro f' e;grind[alloc]
 refine aO (bW (H':=K0) (λ T=>aw T 7=x) ?_ ?_)
 ·(repeat ((first|apply bA (br rfl)|apply bO rfl rfl rfl);simp+decide only[AB,b1,av9,Y];rfl))
  exact bF (by simp+decide only[AB])
 intro T2 t7 k2;have c2:=(k2 2 rfl).trans b2;have c3:=(k2 3 rfl).trans t3;have c6:=(k2 6 rfl).trans t6;refine aO (aO (bW (H':=K0) (λ T=>aw T 8=.int .i64 (Int.ofNat 0)) ?_ ?_))
 ·(repeat ((first|apply bA (br rfl)|apply bO rfl rfl rfl);simp+decide only[AB,c2];rfl))
  exact bF (by simp+decide only[AB];rfl)
 intro T3 t8 k3;have d2:=(k3 2 rfl).trans c2;have d3:=(k3 3 rfl).trans c3;have d6:=(k3 6 rfl).trans c6;have d7:=(k3 7 rfl).trans t7;refine ku (tj (λ m T K=>∃(i:Nat),m+i=bs.length/\cj K 1 n x (eU (List.replicate n true)) fm0/\Fr none F K/\Good K/\aw T 2=s2/\aw T 3=.ptr H.next 0/\aw T 6=.ptr (H.next+1) 0/\aw T 7=x/\aw T 8=.int .i64 (Int.ofNat i)) ?_ bs.length _ _ ⟨0,by omega,q2,aP,q4,d2,d3,d6,d7,t8⟩)
 rintro m T K ⟨i,hm,ho,A,gk,u2,u3,u6,u7,u8⟩
 have ac:jd K.objs.get 1 bs.length s2 (eU bs):=((h2.keep f0).keep f1).keep A;refine aO (aO (bW (H':=K) (λ T=>aw T 15=.bool (decide (Int.ofNat i<Int.ofNat bs.length))) ?_ ?_))
 ·(repeat ((first|apply bA (br rfl)|apply bO rfl rfl rfl);simp+decide only[AB,u2,u8,ac.dD Tryz.underlying110];rfl))
  exact bF (by simp+decide only[AB])
 intro T4 aC k4;have v2:=(k4 2 rfl).trans u2;have v3:=(k4 3 rfl).trans u3;have v6:=(k4 6 rfl).trans u6;have v7:=(k4 7 rfl).trans u7;have v8:=(k4 8 rfl).trans u8;refine jZ (by rw[mc,aC]) (λ ab=>?_) (λ aU=>?_)
 .have ab:i<bs.length:=by grind
  have hx:bs[i]? =some bs[i]:=cW ab;obtain⟨v,off,aH,_,J⟩:=ac.index ab Tryz.underlying110 tN rfl;have J:=J 0 (.bool bs[i]) (by omega) (by simp[eU,hx]);rw[nY]at J;have ld:=aa7 J;have N:∀{t:TypeId},cV af .add t (.int .i64 (Int.ofNat i)) (.int .i64 1)=some (.int .i64 (Int.ofNat (i+1))):=wu (by omega);refine kH (aO (ku (aO (bW (H':=K) (λ T=>aw T 21=.bool bs[i]) ?_ ?_))))
  ·(repeat ((first|apply bA (br rfl)|apply bO rfl rfl rfl);simp+decide only[AB,v2,v8,aH,ld];rfl))
   exact bF (by simp+decide only[AB])
  intro T5 aB k5;have w2:=(k5 2 rfl).trans v2;have Z:=(k5 3 rfl).trans v3;have w6:=(k5 6 rfl).trans v6;have w7:=(k5 7 rfl).trans v7;have w8:=(k5 8 rfl).trans v8;refine jZ (by rw[mc,aB]) (λ aV=>?_) (λ aX=>?_)
  .have aJ:i<lE.length:=by omega
   have he:(lE.map Ed.c)[i]? =some lE[i].c:=by grind[List.getElem?_eq_getElem]
   have aN:cu I K.objs.get:=λ u r e=>A.row u r (f1.row u r (f0.row u r (hI u r e) (by simp)) (by simp)) (by simp)
   have ap:bq K.objs.get H.next (0+1) 1=some [D]:=by have hr:=A.row _ _ o3.row (by simp);simp+decide only[bq,hr];rfl
   obtain⟨y,o,x1,x2⟩:=RK aN hE he Tryz.underlying55 ap9 rfl;obtain⟨c1,ao,aj⟩:=x2 1 (eI lE[i].fr) rfl;obtain⟨c2,an,ag⟩:=x2 2 (eI lE[i].to) rfl;simp only[RP]at aj ag;obtain⟨rfl,_⟩:=aj;obtain⟨rfl,_⟩:=ag;obtain⟨⟨p1,p2⟩,p3,p4⟩:=aI lE[i] (xC aJ);obtain⟨fr,am⟩:∃k:Nat,lE[i].fr=k:=⟨lE[i].fr.toNat,by omega⟩;obtain⟨to,ae⟩:∃k:Nat,lE[i].to=k:=⟨lE[i].to.toNat,by omega⟩;rw[am]at ao;rw[ae]at an;obtain⟨v1,o1,K1,e1,e2,e3,e4,e5⟩:=cj.Ch (P:=af) gk ho (i:=fr) (by omega) (c:=.bool true) rfl Tryz.underlying110 tN rfl;rw[Y6]at e3;obtain⟨ad,o2,K2,z1,z2,z3,z4,z5⟩:=cj.Ch (P:=af) e5 e3 (i:=to) (by omega) (c:=.bool true) rfl Tryz.underlying110 tN rfl;rw[Y6]at z3;have aA:∀k,iM af 55 D (.int k (Int.ofNat i))=some (.ptr y o):=x1;have aQ:∀k,iM af 110 x (.int k (fr:Int))=some (.ptr v1 o1):=e1;have az:∀k,iM af 110 x (.int k (to:Int))=some (.ptr ad o2):=z1;have s1:dJ af K 4 (.ptr v1 o1) (.bool true)=some K1:=by rw[Fc];exact e2
   have aD:dJ af K1 4 (.ptr ad o2) (.bool true)=some K2:=by rw[Fc];exact z2
   refine agb (H':=K2) (λ T=>True) (by kernel_rfl) ?_ ?_
   ·(repeat ((first|apply bA (br rfl)|apply bO rfl rfl rfl);simp+decide only[AB,Z,w7,w8,ZT,WA ap,aA,auZ,akk,F1 ao,F1 an,aQ,az,s1,aD];rfl))
    exact bF trivial
   intro T6 _ k6;have y8:=(k6 8 rfl).trans w8;refine bW (H':=K2) (λ T=>aw T 8=.int .i64 (Int.ofNat (i+1))) ?_ ?_
   ·(repeat ((first|apply bA (br rfl)|apply bO rfl rfl rfl);simp+decide only[AB,y8,N];rfl))
    exact bF (by simp+decide only[AB])
   intro T7 t8 L;have aM:Fr none F K2:=(A.jE g1 e4 ay).jE g1 z4 ay;exact⟨m- 1,by omega,i+1,by omega,z3,aM,z5,(L 2 rfl).trans ((k6 2 rfl).trans w2),(L 3 rfl).trans ((k6 3 rfl).trans Z),(L 6 rfl).trans ((k6 6 rfl).trans w6),(L 7 rfl).trans ((k6 7 rfl).trans w7),t8⟩
  refine kH (bW (H':=K) (λ T=>aw T 8=.int .i64 (Int.ofNat (i+1))) ?_ ?_)
  ·(repeat ((first|apply bA (br rfl)|apply bO rfl rfl rfl);simp+decide only[AB,w8,N];rfl))
   exact bF (by simp+decide only[AB])
  intro T7 t8 L;exact⟨m- 1,by omega,i+1,by omega,ho,A,gk,(L 2 rfl).trans w2,(L 3 rfl).trans Z,(L 6 rfl).trans w6,(L 7 rfl).trans w7,t8⟩
 .refine tX ?_;show W af ng Z7 43 _ _ _ _;have aG:jd K.objs.get 1 (List.replicate n true).length x (eU (List.replicate n true)):=by rw[om];exact ho.read
  obtain⟨⟨ra,Ka⟩,a1,fa,a2,a3,a4,a5⟩:=UJ K x (List.replicate n true) gk aG (by rw[om];exact hn);obtain⟨⟨rb,Kb⟩,b1,fb,b2,b3,b4,b5⟩:=UJ Ka s2 bs a5 (ac.keep a4) (by omega);simp only at a2 a4 a5 b1 b2 b4 b5;have aE:=((o6.keep A (by simp)).keep a4 (by simp)).keep b4 (by simp);have oa:ra.eh=true:=a2.one;have ob:rb.eh=true:=b2.one;obtain⟨Kc,w1,w2,Z,w4,w5⟩:=lO b5 aE (off:=0) (new:=[ra,rb]) (by simp) (by simp[oa,ob]);have aF:dJ af Kb 64 (.ptr (H.next+1) 0) (.agg [ra,rb])=some Kc:=by rw[agu];exact w1
  refine aO (bW (H':=Kc) (λ T=>aw T 6=.ptr (H.next+1) 0) ?_ ?_)
  ·(repeat ((first|apply bA (br rfl)|apply bO rfl rfl rfl);simp+decide only[AB,v2,v6,v7,jS,oq,apN,a1,b1,akI oa ob,aF];rfl))
   exact bF (by simp+decide only[AB,v6])
  intro T8 t6 _;have J:bq Kc.objs.get (H.next+1) 0 2=some [ra,rb]:=by simp+decide only[bq,w2.row];rfl
  refine oR ⟨by simp,[.agg [ra,rb]],?_,?_⟩;.show jL af Kc.objs.get T8 [.cell 6 64]=_;grind[jL,abd]
  have al:∀f,some f=some (H.next+1)->F.next<=f->False:=λ f e h=>by cases e;omega
  have na:fa=none\/fa≠some (H.next+1):=by
   rcases fa with _|f
   .exact .inl rfl
   right;intro e;exact al f e (by have:=a3 f rfl;have:=A.next;omega)
  have nb:fb=none\/fb≠some (H.next+1):=by
   rcases fb with _|f
   .exact .inl rfl
   right;intro e;exact al f e (by have:=b3 f rfl;have:=A.next;have:=a4.next;omega)
  have ar:Fr none H Kc:=by have h1:Fr none H Kb:=(((f0.trans f1).trans A).trans a4).trans b4;exact h1.jE g Z (λ f e=>by grind)
  refine⟨ar,w5,ra,rb,fa,fb,rfl,(a2.B7 b4).keep Z na,λ f e=>?_,b2.keep Z nb,λ f e=>?_⟩;.have:=a3 f e;have:=A.next;omega
  have:=b3 f e;have:=A.next;have:=a4.next;omega
end
section
variable{l:List Oper}{o:Oper}
variable{P:Program}{ng n:Nat}{Z7:aW}
def yx(h:Nat->Nat):List Oper->Nat->List Nat->List Nat->Bool->Bool
 |[],_,_,_,_=>true
 |o::l,i,rs,cA,eP=>match dj o.op with
  |0=>yx h l (i+1) rs cA eP
  |1=> !eP&&yx h l (i+1) (i::rs) cA eP
  |2=>yx h l (i+1) rs (i::cA) eP
  |_=>qJ (h i) cA&&(qJ (h i) rs&&yx h l (i+1) rs (i::cA) true)
def J5(P:Program)(ng:Nat)(Z7:aW)(H0:ah)(T:Tr aa)(H:ah)(o:Op):Option (aa×ah):=
 match dj o with
 |1=>(match bK P ng Z7 T H0 o with|some r=>some (r.1,H)|none=>none)
 |_=>bK P ng Z7 T H o
def rC(P:Program)(ng:Nat)(Z7:aW)(n:Nat)(H0:ah)(Z8:List Oper):List Oper->Tr aa->ah->Option (Tr aa×ah)
 |[],T,H=>some (T,H)
 |o::l,T,H=>if bJ Z8 T o=true then(match J5 P ng Z7 H0 T H o.op with|some r=>rC P ng Z7 n H0 Z8 l (cG n T o.dst r.1) r.2|none=>none)else rC P ng Z7 n H0 Z8 l (cG n T o.dst (.tuple [])) H
theorem YK{H:ah}(wf:WF H){cs:List aa}{ex:Bool}:(∀u r,H.objs.get u=some r->(alloc H cs ex sz).objs.get u=some r)/\WF (alloc H cs ex sz):=by
 refine⟨λ u r h=>?_,λ u r h=>?_⟩;.have:=(wf u r h).1;grind[alloc,Tr.tJ]
 simp only[alloc]at h⊢;rw[Tr.fT]at h;split at h;.grind
 have:=wf u r h;exact⟨by omega,by omega⟩
theorem wh{K:Nat->Nat}:∀{l:List Oper} {i:Nat} {rs cA:List Nat} {eP:Bool} {S:eX} {T T':Tr aa} {H H':ah},yx K l i rs cA eP=true->(∀a∈S.cA,a∈cA)->(∀r∈S.rs,r.1∈rs)->(eP=false->(∀u r,H0.objs.get u=some r->H.objs.get u=some r)/\WF H/\S.es=[])->
 (∀r∈S.rs,dP P ng r.2.1 H0.objs.get r.2.2.1=some r.2.2.2)->(∀r∈S.rs,∀e∈S.es,tb (K e.1) r.1=true)->rC P ng Z7 n H0 Z8 l T H=some (T',H')->
 ∃S',gF P ng Z7 n Z8 K l i S T H=some (S',T',H')/\(∀r∈S'.rs,dP P ng r.2.1 H0.objs.get r.2.2.1=some r.2.2.2)/\(∀r∈S'.rs,∀e∈S'.es,tb (K e.1) r.1=true)
 |[],i,rs,cA,eP,S,T,T',H,H',_,_,_,_,L,M,h=>by cases h;exact⟨S,rfl,L,M⟩
 |o::l,i,rs,cA,eP,S,T,T',H,H',A,Y,N,h3,L,M,h=>by
  unfold rC at h;rw[RC];simp only[yx]at A;cases hw:bJ Z8 T o
  .rw[hw]at h;simp only[rI,qv]at h⊢;rcases DV o.op with D|D|D|D
   .rw[D]at A;exact wh A Y N h3 L M h
   .rw[D]at A;simp only[aR]at A;exact wh A.2 Y (λ r hr=>cz _ (N r hr)) h3 L M h
   .rw[D]at A;exact wh A (λ a G=>cz _ (Y a G)) N h3 L M h
   rw[D]at A;simp only[aR]at A;exact wh A.2.2 (λ a G=>cz _ (Y a G)) N (λ e=>by cases e) L M h
  rw[hw]at h;simp only[jz]at h⊢;unfold J5 at h;rcases DV o.op with D|D|D|D
  .rw[D]at A h;simp only at h;cases F:bK P ng Z7 T H o.op;.rw[F]at h;cases h
   rename_i r;rw[F]at h;simp only at h⊢;rw[ab6 D];have ac:r.2=H:=by simp only[bK,D]at F;unfold fZ at F;split at F<;>cases F;rfl
   rw[ac]at h⊢;exact wh A Y N h3 L M h
  .rw[D]at A h;simp only[aR,Ia]at A;obtain⟨e1,e2,e3⟩:=h3 A.1;simp only at h;cases F:bK P ng Z7 T H0 o.op;.rw[F]at h;cases h
   rename_i r;rw[F]at h;simp only at h;have ab:dP P ng T H0.objs.get o.op=some r.1:=by simp only[bK,D]at F;unfold fZ at F;grind
   have ad:bK P ng Z7 T H o.op=some (r.1,H):=by simp only[bK,D,adY e1 ab];rfl
   rw[ad];simp only;rw[abk D];refine wh (S:=sW i T o.op S r.1) A.2 Y (λ x J=>?_) h3 (λ x J=>?_) (λ x J e he=>?_) h
   .rcases ck.1 (show x∈(i,T,o.op,r.1)::S.rs from J)with rfl|J
    .exact cS ..
    exact cz _ (N x J)
   .rcases ck.1 (show x∈(i,T,o.op,r.1)::S.rs from J)with rfl|J
    .exact ab
    exact L x J
   have he:e∈S.es:=he;rw[e3]at he;cases he
  .rw[D]at A h;simp only at h;cases F:bK P ng Z7 T H o.op;.rw[F]at h;cases h
   rename_i r;rw[F]at h;simp only at h⊢;have Z:∃cs sz,r.2=alloc H cs true sz:=by simp only[bK,D]at F;unfold mX at F;grind
   obtain⟨cs,sz,Z⟩:=Z;rw[show ib (K i) i T o.op S r=some (HM i S) by unfold ib;rw[D];rfl];refine wh (S:=HM i S) A (λ a G=>?_) N (λ e=>?_) L M h
   .rcases ck.1 (show a∈i::S.cA from G)with rfl|G
    .exact cS ..
    exact cz _ (Y a G)
   obtain⟨e1,e2,e3⟩:=h3 e;rw[Z];exact⟨λ u r hu=>(YK e2).1 u r (e1 u r hu),(YK e2).2,e3⟩
  rw[D]at A h;simp only[aR]at A;simp only at h;cases F:bK P ng Z7 T H o.op;.rw[F]at h;cases h
  rename_i r;rw[F]at h;simp only at h⊢;rw[ahv D (A1.2 λ a G=>A1.1 A.1 a (Y a G))];refine wh (S:=Bc i S r.2) A.2.2 (λ a G=>?_) N (λ e=>by cases e) L (λ x J e he=>?_) h
  .rcases ck.1 (show a∈i::S.cA from G)with rfl|G
   .exact cS ..
   exact cz _ (Y a G)
  rcases ck.1 (show e∈(i,r.2.objs)::S.es from he)with rfl|he
  .exact A1.1 A.2.1 _ (N x J)
  exact M x J e he
theorem amh{Z8:Array Oper}{T':Tr aa}{H:ah}(wf:WF H)(D:yx (cO Z8) Z8.toList 0 [] [] false=true)(h:rC P ng Z7 n H Z8.toList Z8.toList T H=some (T',H')):jn P ng Z7 n Z8 T H true=some (T',H'):=by
 obtain⟨S,G,F,h3⟩:=wh (S:=⟨[],[],[]⟩) D (λ a A=>by cases A) (λ a A=>by cases A) (λ _=>⟨λ _ _ e=>e,wf,rfl⟩) (λ a A=>by cases A) (λ a A=>by cases A) h;show nL P ng (cO Z8) H.objs (gF P ng Z7 n Z8.toList (cO Z8) Z8.toList 0 ⟨[],[],[]⟩ T H)=_;rw[G];simp only[nL]
 have:∀rs:List (Nat×Tr aa×Op×aa),(∀r∈rs,dP P ng r.2.1 H.objs.get r.2.2.1=some r.2.2.2)->(∀r∈rs,∀e∈S.es,tb (cO Z8 e.1) r.1=true)->vd P ng (cO Z8) H.objs S.es rs=true:=by
  intro rs;induction rs with
  |nil=>intro _ _;rfl
  |cons r rs J=>grind[abn,List.mem_cons_of_mem,Tk,List.mem_cons_self]
 rw[this S.rs F h3]
theorem TZ{H:ah}(F:dj o.op=1)(A:bJ Z8 T o=true)(D:bK P ng Z7 T H0 o.op=some r)
 (h:∃T',rC P ng Z7 n H0 Z8 l (cG n T o.dst r.1) H=some (T',H')/\R T'):∃T',rC P ng Z7 n H0 Z8 (o::l) T H=some (T',H')/\R T':=by
 grind[rC,J5]
theorem Ri{H:ah}(A:Nat.beq (dj o.op) 1=false)(D:bJ Z8 T o=true)(G:bK P ng Z7 T H o.op=some r)
 (h:∃T',rC P ng Z7 n H0 Z8 l (cG n T o.dst r.1) r.2=some (T',H')/\R T'):∃T',rC P ng Z7 n H0 Z8 (o::l) T H=some (T',H')/\R T':=by
 obtain⟨T',J,F⟩:=h;refine⟨T',?_,F⟩;unfold rC J5;rw[ao D];rcases DV o.op with e|e|e|e
 .grind
 .rw[e]at A;cases A
 .grind
 grind
def QW{H:ah}(h:R T):∃T',rC P ng Z7 n H0 Z8 [] T H=some (T',H)/\R T':=⟨T,rfl,h⟩
def Pp{H:ah}{Q:eE->Tr aa->ah->Prop}{id:Nat}{Z8:Array Oper}(R:Tr aa->Prop)(wf:WF H)(D:yx (cO Z8) Z8.toList 0 [] [] false=true)(h:∃T',rC P ng Z7 n H Z8.toList Z8.toList T H=some (T',H')/\R T')(F:∀T',R T'->(∀t,Gj Z8.toList t=true->aw T' t=aw T t)->Q .normal T' H'):W P ng Z7 n (.region id Z8 true) T H Q:=by
 obtain⟨T',J,G⟩:=h;have h3:=amh wf D J;refine jH h3 (F T' G ?_);unfold jn at h3;simp only[nL]at h3;split at h3
 .rename_i S K L A;split at h3;.cases h3;exact Fb (Bh A)
  cases h3
 cases h3
end
section
open Go.Proofs
variable{gl:aM}{Z7:cI}
def RB(h:n<64):cV af .shr t (.int .u64 (a.toNat:Int)) (.int .i64 (Int.ofNat n))=some (.int .u64 ((a>>>n).toNat:Int)):=by
 have:Op.shift .shr .u64 (a.toNat:Int) .i64 (n:Int)=pure (.int .u64 ((a.toNat:Int).fdiv (2^(min (n:Int).toNat IntKind.u64.bits)))):=by unfold Op.shift;rw[aj (by omega)]
 show qo (Op.shift .shr .u64 (a.toNat:Int) .i64 (n:Int))=_;rw[this];show some (aa.int .u64 _)=_
 congr 2
 rw[VE,Vo,Eo,show min n IntKind.u64.bits=n from Nu (Nat.le_of_lt h),aiH _ (Int.le_of_lt (Int.pow_pos (by decide))),Int.natCast_ediv,Int.natCast_pow];rfl
def ahe:cV af .and t (.int .u64 (a.toNat:Int)) (.int .u64 1)=some (.int .u64 ((a&&&1#64).toNat:Int)):=by show some (aa.int .u64 (IntKind.wrap .u64 (BitVec.ofInt 64 (a.toNat:Int)&&&BitVec.ofInt 64 (((1#64).toNat:Nat):Int)).toNat))=_;rw[uM,uM,Nj]
def Sz{k:IntKind}{a b:Int}(A:b≠0):cV P .rem t (.int k a) (.int k b)=some (.int k (a.tmod b)):=by have e:Go.binOp .rem t (.int k a) (.int k b)=(if k≠k then(stuck "BinOp: operands of different kinds":Sem Value)else Op.intDiv .rem k a b):=rfl;show qo (Go.binOp .rem t (.int k a) (.int k b))=_;rw[e,aj (λ h=>h rfl)];unfold Op.intDiv;rw[aj A];rfl
def abG{a:Nat}(h:a<64):cV af .rem t (.int .i64 (Int.ofNat a)) (.int .i64 64)=some (.int .i64 (Int.ofNat a)):=by rw[Sz (by decide)];show some (aa.int .i64 ((a:Int).tmod 64))=_;rw[Int.tmod_eq_of_lt (by omega) (by omega)];rfl
def rm(a:BitVec 64)(i:Nat):Bool:=decide ((((a>>>i)&&&1#64).toNat:Int)=1)
def pc(a:BitVec 64)(o n:Nat):List Bool:=(List.range n).map λ i=>rm a (o+i)
theorem EX:(pc a o n).length=n:=by simp[pc]
end
section
open Go.Proofs
variable{l:List Bool}
variable{ng:Nat}{Z7:aW}
def aaP(Z7:aW):Prop:=∀(I:Im) (H:ah) (lE:List Ed) (n:Nat) (bs:List Bool) (A h F D:aa),Good H->cu I H.objs.get->RP I (.sl (lE.map Ed.c) none) h->A.eh=true->h.eh=true->
 jd H.objs.get 1 n F (eU (List.replicate n true))->jd H.objs.get 1 bs.length D (eU bs)->n<=1000->bs.length<=lE.length->lE.length<=1000->(∀e∈lE,(0<=e.fr/\e.fr<n)/\(0<=e.to/\e.to<n))->
 ∃r,Z7 33 [.agg [A,h],F,D] H=some r/\Fr none H r.2/\Good r.2/\∃a b fa G,r.1=.agg [a,b]/\cj r.2 1 (fF 0 (List.replicate n true) []).length a (cT (fF 0 (List.replicate n true) [])) fa/\kM H fa/\cj r.2 1 (fF 0 bs []).length b (cT (fF 0 bs [])) G/\kM H G
def ai4{l:List aa}{H:ah}:ir af Z7 33 l H=Z7 33 l H:=by simp only[ir,Tryz.func33];rfl
def awU:gv af 57 (.ptr v o) 0=some (.ptr v (o+0)):=by have h:Nat.beq Tryz.t45.size 0=false:=rfl;simp only[gv,Tryz.underlying57,DY,QN,h];rfl
def axg:Tryz.prog.info? 57=some Tryz.t57:=by kernel_rfl
def azr{a b:aa}(h:bq g v off 2=some [a,b]):de af g 57 (.ptr v off)=some (.agg [a,b]):=by have A:Tryz.t57.size=2:=rfl;simp only[de,Tryz.underlying57,axg,A,h];rfl
def atY(n:Nat):kh [aa.bool false] n=eU (List.replicate n false):=by
 induction n with
 |zero=>rfl
 |succ n h=>simp only[kh,h,Nv];rfl
def XJ(h:n<=1000):wQ af 110 (some (.int .i64 (Int.ofNat n))) (some (.int .i64 (Int.ofNat n)))=some (eU (List.replicate n false),1,some n):=by
 have A:ig af 4=some (.bool false):=by kernel_rfl
 have D:Tryz.t4.size=1:=rfl;have G:Tryz.t4.bytes=1:=rfl;have F:(aa.bool false).cells=[.bool false]:=rfl;have K:Nat.ble (n*1) eJ=true:=b9 (by unfold eJ;omega);have J:Nat.ble n eJ=true:=b9 (by unfold eJ;omega);simp+decide only[wQ,Tryz.underlying110,tN,A,D,G,F,K,J,b9 (be n),atY];rfl
theorem alR(h:∀i,i<n->rm a i=true):pc a 0 n=List.replicate n true:=by apply xr;grind[pc,List.getElem?_range,List.getElem?_eq_none,EX]
def AY(a:BitVec 64)(o n i:Nat)(l:List Bool):Prop:=l.length=n/\∀j,j<i->l[j]? =some (rm a (o+j))
def AY.step(h:AY a o n i l)(hi:i<n):AY a o n (i+1) (l.set i (rm a (o+i))):=by
 refine⟨by rw[VA];exact h.1,λ j A=>?_⟩;rw[If];by_cases e:i=j;.subst e;rw[ao rfl,ao (by rw[h.1];exact hi)]
 rw[aj e];exact h.2 j (by omega)
theorem AY.done(h:AY a o n n l):l=pc a o n:=by
 apply xr;intro i;by_cases hi:i<n;.rw[h.2 i hi];grind[pc,List.getElem?_range]
 rw[ma (by rw[h.1];omega),ma (by rw[EX];omega)]
def X8:(eU l).set i (.bool b)=eU (l.set i b):=by simp[eU,aiG]
def auC(h:i+j<=1000000):cV af .add t (.int .i64 (Int.ofNat i)) (.int .i64 (Int.ofNat j))=some (.int .i64 (Int.ofNat (i+j))):=ahN h
theorem p9{es:aS}{a:aa}(h:RP I (.sl es none) a){e:TypeId}(A:Tryz.prog.underlying t=some (.slice e)):dD af t a=some (.int .i64 (Int.ofNat es.length)):=by
 simp only[RP]at h;rcases h with⟨rfl,rfl|rfl⟩|⟨v,off,D,r,sz,rfl,_⟩
 .simp only[dD,A];rfl
 .simp only[dD,A];rfl
 simp only[dD,A];rfl
theorem amH(aI:aaP Z7){H:ah}(g:Good H)(hI:cu I H.objs.get){D F:aa}(hN:RP I (aD lN) D)(hE:RP I (.sl (lE.map Ed.c) none) F)(oN:D.eh=true)(oE:F.eh=true)
 (hn:lN.length<=10) (hm:lE.length<=20) (aB:∀e∈lE,(0<=e.fr/\e.fr<lN.length)/\(0<=e.to/\e.to<lN.length)) (ae:∀i,i<lN.length->rm a i=true):
 ∃r,fI af ng Z7 11 [.agg [D,F],.int .u64 (a.toNat:Int)] H r/\Fr none H r.2/\Good r.2/\∃x y fx fy,r.1=.agg [x,y]/\cj r.2 1 (fF 0 (List.replicate lN.length true) []).length x (cT (fF 0 (List.replicate lN.length true) [])) fx/\kM H fx/\cj r.2 1 (fF 0 (pc a lN.length lE.length) []).length y (cT (fF 0 (pc a lN.length lE.length) [])) fy/\kM H fy:=by
 generalize aK:lN.length=n at*;generalize aP:lE.length=m at*;refine qn Tryz.func11 rfl ?_;show W af ng Z7 54 _ _ _ _;have a0:aw (fH [.agg [D,F],.int .u64 (a.toNat:Int)] 0 .nil) 0=.agg [D,F]:=rfl;have a1:aw (fH [.agg [D,F],.int .u64 (a.toNat:Int)] 0 .nil) 1=.int .u64 (a.toNat:Int):=rfl;have ac:(aa.agg [D,F]).cells=[D,F]:=rfl;have aC:(aa.agg [.ai,.ai]).cells=[.ai,.ai]:=rfl;have f0:=gH g [D,F] true 1;have g0:=gD g [D,F] true 1;have f1:=gH g0 [.ai,.ai] true 1;have g1:=gD g0 [.ai,.ai] true 1;have o2:=(ic H [D,F] true 1).keep f1 (by simp);have o4:=ic (alloc H [D,F] true 1) [.ai,.ai] true 1;generalize an:alloc (alloc H [D,F] true 1) [.ai,.ai] true 1=A at*;have aN:A.next=H.next+2:=by rw[<-an];rfl
 have ag:(alloc H [D,F] true 1).next=H.next+1:=rfl
 rw[ag]at o4;refine aO (bW (H':=A) (λ T=>aw T 2=.ptr H.next 0/\aw T 4=.ptr (H.next+1) 0) ?_ ?_)
 ·(repeat ((first|apply bA (br rfl)|apply bO rfl rfl rfl);simp+decide only[AB,a0,ac,Ui,aC,an,ag];rfl))
  exact bF (by simp+decide only[AB,vI])
 rintro T1 ⟨t2,t4⟩ k1
 have b1:=(k1 1 rfl).trans a1;have ad:∀{K:ah},Fr none A K->bq K.objs.get H.next 0 2=some [D,F]/\bq K.objs.get H.next (0+0) 1=some [D]/\bq K.objs.get H.next (0+1) 1=some [F]:=by intro K fr;have hr:=fr.row _ _ o2.row (by simp);refine⟨?_,?_,?_⟩<;>(simp+decide only[bq,hr];rfl)
 have ax:dD af 45 D=some (.int .i64 (Int.ofNat n)):=by grind[p9,Tryz.underlying45,List.length_map]
 have ay:dD af 55 F=some (.int .i64 (Int.ofNat m)):=by grind[p9,Tryz.underlying55,List.length_map]
 have fA:=gH g1 (eU (List.replicate n false)) true 1;have gA:=gD g1 (eU (List.replicate n false)) true 1;have oA:=ic A (eU (List.replicate n false)) true 1;generalize am:alloc A (eU (List.replicate n false)) true 1=J at*;have aM:J.next=A.next+1:=by rw[<-am];rfl
 have fB:=gH gA (eU (List.replicate m false)) true 1;have gB:=gD gA (eU (List.replicate m false)) true 1;have oB:=ic J (eU (List.replicate m false)) true 1;generalize al:alloc J (eU (List.replicate m false)) true 1=HB at*;have aL:HB.next=J.next+1:=by rw[<-al];rfl
 have au:cj HB 1 n (.slice A.next 0 n none) (eU (List.replicate n false)) (some A.next):=⟨by rw[Bf,om];omega,.inr ⟨_,_,rfl,oA.keep fB (by simp),rfl,by grind[eU,Bf,List.length_replicate],by grind[eU,List.take_of_length_le,Bf,List.length_replicate],rfl⟩⟩;have ar:cj HB 1 m (.slice J.next 0 m none) (eU (List.replicate m false)) (some J.next):=⟨by rw[Bf,om];omega,.inr ⟨_,_,rfl,oB,rfl,by grind[eU,Bf,List.length_replicate],by grind[eU,List.take_of_length_le,Bf,List.length_replicate],rfl⟩⟩;refine aO (Pp (H':=HB) (λ T=>aw T 5=.slice A.next 0 n none/\aw T 6=.slice J.next 0 m none) g1.wf (by kernel_rfl) ?_ ?_)
 ·(repeat ((first|apply TZ rfl (br rfl)|apply Ri rfl (br rfl));simp+decide only[AB,t2,awU,ZT,TM (ad (Fr.refl _ _)).2.1,WA (ad (Fr.refl _ _)).2.2,ax,ay,so,XJ (show n<=1000 by omega),XJ (show m<=1000 by omega),am,al];rfl))
  exact QW (by simp+decide only[AB,vI])
 rintro T2 ⟨t5,t6⟩ k2
 have c1:=(k2 1 rfl).trans b1;have c2:=(k2 2 rfl).trans t2;have c4:=(k2 4 rfl).trans t4;have aG:kM A (some A.next):=λ f e=>(by cases e;exact be _)
 have aF:kM A (some J.next):=λ f e=>(by cases e;omega)
 have aH:Fr none A HB:=fA.trans fB;refine aO (aO (bW (H':=HB) (λ T=>aw T 7=.int .i64 (Int.ofNat 0)) ?_ ?_))
 ·(repeat ((first|apply bA (br rfl)|apply bO rfl rfl rfl);simp+decide only[AB,c1];rfl))
  exact bF (by simp+decide only[AB];rfl)
 intro T3 t7 k3;have d1:=(k3 1 rfl).trans c1;have d2:=(k3 2 rfl).trans c2;have d4:=(k3 4 rfl).trans c4;have d5:=(k3 5 rfl).trans t5;have d6:=(k3 6 rfl).trans t6;refine ku (tj (λ mm T K=>∃(i:Nat) (l:List Bool),mm+i=n/\AY a 0 n i l/\cj K 1 n (.slice A.next 0 n none) (eU l) (some A.next)/\cj K 1 m (.slice J.next 0 m none) (eU (List.replicate m false)) (some J.next)/\Fr none A K/\Good K/\HB.next<=K.next/\aw T 1=.int .u64 (a.toNat:Int)/\aw T 2=.ptr H.next 0/\aw T 4=.ptr (H.next+1) 0/\aw T 5=.slice A.next 0 n none/\aw T 6=.slice J.next 0 m none/\aw T 7=.int .i64 (Int.ofNat i)) ?_ n _ _ ⟨0,_,by omega,⟨by simp,λ j hj=>by omega⟩,au,ar,aH,gB,be _,d1,d2,d4,d5,d6,t7⟩)
 rintro mm T K ⟨i,l,hi,L,w5,w6,h,gk,az,u1,u2,u4,u5,u6,u7⟩
 refine aO (aO (bW (H':=K) (λ T=>aw T 20=.bool (decide (Int.ofNat i<Int.ofNat n))) ?_ ?_))
 ·(repeat ((first|apply bA (br rfl)|apply bO rfl rfl rfl);simp+decide only[AB,u5,u7,w5.read.dD Tryz.underlying110];rfl))
  exact bF (by simp+decide only[AB])
 intro T4 ap k4;have v1:=(k4 1 rfl).trans u1;have v2:=(k4 2 rfl).trans u2;have v4:=(k4 4 rfl).trans u4;have v5:=(k4 5 rfl).trans u5;have v6:=(k4 6 rfl).trans u6;have v7:=(k4 7 rfl).trans u7;refine jZ (by rw[mc,ap]) (λ G=>?_) (λ Z=>?_)
 .have G:i<n:=by grind
  have Y:∀{t:TypeId},cV af .add t (.int .i64 (Int.ofNat i)) (.int .i64 1)=some (.int .i64 (Int.ofNat (i+1))):=wu (by omega);obtain⟨v,o,K1,e1,e2,e3,e4,e5⟩:=cj.Ch (P:=af) gk w5 (i:=i) G (c:=.bool (rm a i)) rfl Tryz.underlying110 tN rfl;rw[X8]at e3;have s1:dJ af K 4 (.ptr v o) (.bool (decide ((((a>>>i)&&&1#64).toNat:Int)=1)))=some K1:=by rw[Fc];exact e2
  refine kH (aO (ku (bW (H':=K1) (λ T=>True) ?_ ?_)))
  ·(repeat ((first|apply bA (br rfl)|apply bO rfl rfl rfl);simp+decide only[AB,v1,v5,v7,abG (show i<64 by omega),RB (show i<64 by omega),ahe,e1,s1];rfl))
   exact bF trivial
  intro T5 _ N;have x7:=(N 7 rfl).trans v7;refine bW (H':=K1) (λ T=>aw T 7=.int .i64 (Int.ofNat (i+1))) ?_ ?_
  ·(repeat ((first|apply bA (br rfl)|apply bO rfl rfl rfl);simp+decide only[AB,x7,Y];rfl))
   exact bF (by simp+decide only[AB])
  intro T6 t7 M;have ab:=L.step G;rw[iX]at ab;exact⟨mm- 1,by omega,i+1,_,by omega,ab,e3,w6.keep e4 (.inr (by simp;omega)),h.jE g1 e4 aG,e5,fX az e4.next,(M 1 rfl).trans ((N 1 rfl).trans v1),(M 2 rfl).trans ((N 2 rfl).trans v2),(M 4 rfl).trans ((N 4 rfl).trans v4),(M 5 rfl).trans ((N 5 rfl).trans v5),(M 6 rfl).trans ((N 6 rfl).trans v6),t7⟩
 .have Z:i=n:=by grind[of_decide_eq_false]
  subst Z;rw[L.done,alR ae]at w5;refine tX ?_;show W af ng Z7 54 _ _ _ _;refine aO (aO (bW (H':=K) (λ T=>aw T 8=.int .i64 (Int.ofNat 0)) ?_ ?_))
  ·(repeat ((first|apply bA (br rfl)|apply bO rfl rfl rfl);simp+decide only[AB,v1];rfl))
   exact bF (by simp+decide only[AB];rfl)
  intro T5 t8 N;have y1:=(N 1 rfl).trans v1;have y2:=(N 2 rfl).trans v2;have y4:=(N 4 rfl).trans v4;have y5:=(N 5 rfl).trans v5;have y6:=(N 6 rfl).trans v6;refine ku (tj (λ mm T K=>∃(j:Nat) (l:List Bool),mm+j=m/\AY a i m j l/\cj K 1 i (.slice A.next 0 i none) (eU (List.replicate i true)) (some A.next)/\cj K 1 m (.slice J.next 0 m none) (eU l) (some J.next)/\Fr none A K/\Good K/\aw T 1=.int .u64 (a.toNat:Int)/\aw T 2=.ptr H.next 0/\aw T 4=.ptr (H.next+1) 0/\aw T 5=.slice A.next 0 i none/\aw T 6=.slice J.next 0 m none/\aw T 8=.int .i64 (Int.ofNat j)) ?_ m _ _ ⟨0,_,by omega,⟨by simp,λ j hj=>by omega⟩,w5,w6,h,gk,y1,y2,y4,y5,y6,t8⟩);clear w5 w6 h gk v1 v2 v4 v5 v6 v7 u1 u2 u4 u5 u6 u7 y1 y2 y4 y5 y6 L
  rintro mm T K ⟨j,l,hj,L,w5,w6,h,gk,u1,u2,u4,u5,u6,u8⟩
  refine aO (aO (bW (H':=K) (λ T=>aw T 35=.bool (decide (Int.ofNat j<Int.ofNat m))) ?_ ?_))
  ·(repeat ((first|apply bA (br rfl)|apply bO rfl rfl rfl);simp+decide only[AB,u6,u8,w6.read.dD Tryz.underlying110];rfl))
   exact bF (by simp+decide only[AB])
  intro T6 ao M;have v1:=(M 1 rfl).trans u1;have v2:=(M 2 rfl).trans u2;have v4:=(M 4 rfl).trans u4;have v5:=(M 5 rfl).trans u5;have v6:=(M 6 rfl).trans u6;have v8:=(M 8 rfl).trans u8;refine jZ (by rw[mc,ao]) (λ G=>?_) (λ Z=>?_)
  .have G:j<m:=by grind
   have Y:∀{t:TypeId},cV af .add t (.int .i64 (Int.ofNat j)) (.int .i64 1)=some (.int .i64 (Int.ofNat (j+1))):=wu (by omega);obtain⟨v,o,K1,e1,e2,e3,e4,e5⟩:=cj.Ch (P:=af) gk w6 (i:=j) G (c:=.bool (rm a (i+j))) rfl Tryz.underlying110 tN rfl;rw[X8]at e3;have s1:dJ af K 4 (.ptr v o) (.bool (decide ((((a>>>(i+j))&&&1#64).toNat:Int)=1)))=some K1:=by rw[Fc];exact e2
   refine kH (aO (ku (bW (H':=K1) (λ T=>True) ?_ ?_)))
   ·(repeat ((first|apply bA (br rfl)|apply bO rfl rfl rfl);simp+decide only[AB,v1,v5,v6,v8,w5.read.dD Tryz.underlying110,auC (show i+j<=1000000 by omega),abG (show i+j<64 by omega),RB (show i+j<64 by omega),ahe,e1,s1];rfl))
    exact bF trivial
   intro T7 _ k7;have x8:=(k7 8 rfl).trans v8;refine bW (H':=K1) (λ T=>aw T 8=.int .i64 (Int.ofNat (j+1))) ?_ ?_
   ·(repeat ((first|apply bA (br rfl)|apply bO rfl rfl rfl);simp+decide only[AB,x8,Y];rfl))
    exact bF (by simp+decide only[AB])
   intro T8 t8 k8;exact⟨mm- 1,by omega,j+1,_,by omega,L.step G,w5.keep e4 (.inr (by simp;omega)),e3,h.jE g1 e4 aF,e5,(k8 1 rfl).trans ((k7 1 rfl).trans v1),(k8 2 rfl).trans ((k7 2 rfl).trans v2),(k8 4 rfl).trans ((k7 4 rfl).trans v4),(k8 5 rfl).trans ((k7 5 rfl).trans v5),(k8 6 rfl).trans ((k7 6 rfl).trans v6),t8⟩
  have Z:j=m:=by grind[of_decide_eq_false]
  subst Z;rw[L.done]at w6;refine tX ?_;show W af ng Z7 54 _ _ _ _;have aE:cu I K.objs.get:=λ u r e=>h.row u r (f1.row u r (f0.row u r (hI u r e) (by simp)) (by simp)) (by simp)
  have aj:(pc a i j).length=j:=EX;obtain⟨⟨r,Ka⟩,q1,q2,q3,xa,xb,fa,fb,q4,q5,q6,q7,q8⟩:=aI I K lE i (pc a i j) D F _ _ gk aE hE oN oE w5.read (by rw[aj];exact w6.read) (by omega) (by rw[aj];omega) (by omega) (λ e he=>aB e he);simp only at q2 q3 q4 q5 q7;subst q4;have av:=(o4.keep h (by simp)).keep q2 (by simp);have ox:=q5.one;have oy:=q7.one;obtain⟨Kc,z1,z2,z3,z4,z5⟩:=lO q3 av (off:=0) (new:=[xa,xb]) (by simp) (by simp[ox,oy]);have ab:dJ af Ka 64 (.ptr (H.next+1) 0) (.agg [xa,xb])=some Kc:=by rw[agu];exact z1
  have aA:=azr (ad h).1;refine aO (bW (H':=Kc) (λ T=>aw T 4=.ptr (H.next+1) 0) ?_ ?_)
  ·(repeat ((first|apply bA (br rfl)|apply bO rfl rfl rfl);simp+decide only[AB,v2,v4,v5,v6,jS,oq,aA,ai4,q1,ab];rfl))
   exact bF (by simp+decide only[AB,v4])
  intro T7 t4 _;have aJ:bq Kc.objs.get (H.next+1) 0 2=some [xa,xb]:=by simp+decide only[bq,z2.row];rfl
  have aQ:=h.next;refine oR ⟨by simp,[.agg [xa,xb]],?_,?_⟩;.show jL af Kc.objs.get T7 [.cell 4 64]=_;grind[jL,abd]
  have na:fa=none\/fa≠some (H.next+1):=by
   rcases fa with _|f
   .exact .inl rfl
   right;intro e;have:=q6 f rfl;cases e;omega
  have nb:fb=none\/fb≠some (H.next+1):=by
   rcases fb with _|f
   .exact .inl rfl
   right;intro e;have:=q8 f rfl;cases e;omega
  have ak:Fr none H Kc:=by have h1:Fr none H Ka:=((f0.trans f1).trans h).trans q2;exact h1.jE g z3 (λ f e=>by grind)
  exact⟨ak,z5,xa,xb,fa,fb,rfl,q5.keep z3 na,λ f e=>by have:=q6 f e;omega,q7.keep z3 nb,λ f e=>by have:=q8 f e;omega⟩
end
section
open Go.Proofs
variable{N:aT}
variable{gl:aM}{base:eH}
def lw{α σ:Type}(f:α->σ->Option (σ⊕bZ))(g:σ->σ->Bool)(x:α)(s:σ×Bool):Option (σ×Bool⊕bZ):=match f x s.1 with
 |some (.inl s')=>some (.inl (s',s.2||g s.1 s'))
 |some (.inr r)=>some (.inr r)
 |none=>none
def Il{f:α->σ->Option (σ⊕bZ)}{g:σ->σ->Bool}:∀{l:List α} {s s':σ} {w:Bool},bP f l s=some (.inl s')->∃w',bP (lw f g) l (s,w)=some (.inl (s',w'))
 |[],s,s',w,h=>by cases h;exact⟨w,rfl⟩
 |x::l,s,s',w,h=>by
  simp only[bP]at h;split at h;.rename_i A F;obtain⟨w',D⟩:=Il (g:=g) (w:=w||g s A) h;refine⟨w',?_⟩;simp only[bP,lw,F];exact D
  .cases h
  cases h
abbrev u8:Nat×List ae:=(8,[.sl [] (some 5),.sl [] (some 3)])
def RU.aq7{r:RU}:jt true 2 r.c 1=some (.agg [aD r.lN,dY r.lE]):=by
 have:1+2<=r.c.length:=by rw[RU.len];omega
 simp only[jt,qO,ao this];rfl
def aAE{p:RU×Nat}(h:pK N p s=some (.inl s')):s<+:s':=by
 unfold pK at h;split at h;.rename_i r A;cases h;exact Ai A
 cases h
abbrev yK(R:List RU)(most:Nat)(ok:Bool)(N:aT)(i:Nat):VT:=[(1,.sl (R.map RU.c) none),(3,eI most),(8,.ptr 0 8 0),(12,.ptr 0 12 0),(13,eB ok),(15,eI N.E.length),(16,eI N.V.length),(17,.ptr 0 17 0),(69,.sl (R.map RU.c) none),(70,eI R.length),(71,eI i)]
abbrev yl(N:aT)(s:List Oc×Bool):aq:={w:=s.2,cur:=[u8,(12,[.ptr 0 52 0]),(17,[qy s.1]),(52,N.c (some 5) (some 3) (some 1))],up:=[]}
def frL(hB:kK base)(hT:nD gl base)(hC:Al base)(hb:NB N)(hV:N.V.length<=1000000)(hE:N.E.length<=1000)(hR:∀r∈N.R,zg r){ok w:Bool}{r:List Oc×Bool}(hl:N.R.length<=1000000)
 (h:bP (lw (uU (pK N) [] 1000000000) (λ s s'=>decide (s.length<s'.length))) N.R.zipIdx ([],w)=some (.inl r)):
 aJ af gl (VW gl base) 122 FR (yK N.R most ok N 0) (yl N ([],w))=some (.exit 2,yK N.R most ok N N.R.length++[(72,eB false)],yl N r):=by
 have hL:=pg (P:=af) (gl:=gl) (Z7:=VW gl base) (n:=122) (l:=N.R.zipIdx) (C:=FR) (B:=Gl) (f:=lw (uU (pK N) [] 1000000000) (λ s s'=>decide (s.length<s'.length)))
  (TT:=λ i _=>yK N.R most ok N i) (ST:=λ s=>yl N s)
  (X:=λ s=>(.exit 2,yK N.R most ok N N.R.length++[(72,eB false)],yl N s)) ?_ ?_ ?_ ([],w) _ h
 .exact hL
 .intro i s;rw[aus];simp+decide only[VB,lk,aB,↓reduceIte,Nat.reduceBEq,Nat.reduceAdd,yK,yl,u8]
 .intro i s pe hi hp;rw[rP]at hi;have F:((i:Int)<(N.R.length:Int))=True:=dw (by omega);obtain⟨ru,A⟩:∃ru,N.R[i]? =some ru:=⟨_,cW hi⟩;have M:pe=(ru,i):=by rw[Eu,A]at hp;simpa using hp.symm
  subst M;have ac:(N.R.map RU.c)[i]? =some ru.c:=by rw[bM,A];rfl
  have ro:=hR ru (jm A);obtain⟨s,w'⟩:=s;unfold lw;simp only;by_cases J:[]<+:s/\(∀s',pK N (ru,i) s=some (.inl s')->s'.length<=1000000000)
  case neg=>rw[uU,aj J];trivial
  rw[uU,ao J];unfold pK at J⊢;simp only at J⊢;cases Z:mt N ru.lN ru.lE N.E.length 6 ⟨i,[],[]⟩ s;.trivial
  rename_i s';simp only;have L:s'.length<=1000000000:=J.2 s' (by rw[Z]);have K:=gW (P:=af) (t:=3) (show i<=4611686018427387904 by omega)
  have ae:∀v,VW gl base 42 [.ptr 0 52 0,.agg [aD ru.lN,dY ru.lE],eI N.E.length,.agg [eI i,.sl [] none,.sl [] none],.fn 43 [.ptr 0 12 0,.ptr 0 17 0]] [[u8,(12,[.ptr 0 52 0]),(17,[qy s]),(19,v),(52,N.c (some 5) (some 3) (some 1))]]=some (.aL [],[[u8,(12,[.ptr 0 52 0]),(17,[qy s']),(19,v),(52,N.c (some 5) (some 3) (some 1))]],decide (s.length<s'.length)):=by
   intro v;have hh:sy N [[u8,(12,[.ptr 0 52 0]),(17,[qy s]),(19,v),(52,N.c (some 5) (some 3) (some 1))]] 0 52 0 12 0 17 s:=⟨rfl,rfl,rfl⟩;have:=w33 hB hT hC hb hV (be _) hE (lN:=ru.lN) (lE:=ru.lE) (by have:=ro.ln;omega) (by have:=ro.le;omega) hh (iB _) (iB _) L Z;refine this.trans ?_;unfold jb;split;.rfl
   rename_i hn;rw[N4 (Ai Z) hn]
  have G:(ru.c.length==25)=true:=rfl;have D:ru.c.length=25:=rfl;have ab:jt true 25 ru.c 0=some (.agg ru.c):=RJ rfl;have ad:∀d k,iJ d k (N.c (some 5) (some 3) (some 1))=true:=λ _ _=>rfl
  have Y:∀d k,iJ d k ru.c=true:=λ d k=>Lx ro.rc.d
  simp+decide only[Gl,VB,lk,aB,↓reduceIte,Nat.reduceBEq,Nat.reduceAdd,SP,abm,abH,afT,yK,yl,u8,F,aY (sz:=25) ac RU.len,ab,Y,ad,ro.rc.s,ro.rc.k,G,D,RU.aq7,fM,fO,ft,fo,eM,cm,dh,dC,dW,cM,K,aI Si,ae]
 .intro s;refine⟨?_,λ h=>by cases h⟩;rw[rP];simp+decide only[Gl,VB,lk,aB,↓reduceIte,Nat.reduceBEq,Nat.reduceAdd,SP,jT,yK,yl,u8]
def jV.nb(h:jV N):NB N where
 k:=λ r A=>(h.ro r A).ke
 n:=λ x D=>by obtain⟨r,A,G,F⟩:=(h.oc x D).ru;have ro:=h.ro r (ni A);have:=ro.ln;have:=ro.le;omega
abbrev uH(R:List RU)(most:Nat)(fr:List Oc)(ev:Nat)(ok:Bool)(i:Nat):VT:=[(1,.sl (R.map RU.c) none),(3,eI most),(8,.ptr 0 8 0),(12,.ptr 0 12 0),(13,eB ok),(16,eI ev),(86,.sl (fr.map Oc.c) none),(87,eI fr.length),(88,eI i)]
abbrev kA(s:(aT×Bool)×Bool):aq:={w:=s.2,cur:=[u8,(12,[.ptr 0 52 0]),(52,s.1.1.c (some 5) (some 3) (some 1))],up:=[]}
def ME(most:Nat)(s h:aT×Bool):Bool:=decide (s.1.V.length<most/\s.2=true)
def q37:cy af 46=true:=by kernel_rfl
def adL(hB:kK base){R:List RU}{ev:Nat}(ai:fr.length<=1000000000){s0 r:(aT×Bool)×Bool}(h:bP (lw (uJ most) (ME most)) fr s0=some (.inl r)):
 aJ af gl (VW gl base) 122 EN (uH R most fr ev s0.1.2 0) (kA s0)=some (.exit 4,uH R most fr ev r.1.2 fr.length++[(89,eB false)],kA r):=by
 have hL:=pg (P:=af) (gl:=gl) (Z7:=VW gl base) (n:=122) (l:=fr) (C:=EN) (B:=A5) (f:=lw (uJ most) (ME most))
  (TT:=λ i s=>uH R most fr ev s.1.2 i) (ST:=λ s=>kA s)
  (X:=λ s=>(.exit 4,uH R most fr ev s.1.2 fr.length++[(89,eB false)],kA s)) ?_ ?_ ?_ s0 _ h
 .exact hL
 .intro i s;rw[aoi];simp+decide only[VB,lk,aB,↓reduceIte,Nat.reduceBEq,Nat.reduceAdd,uH,kA,u8]
 .intro i s x hi hp;have A:((i:Int)<(fr.length:Int))=True:=dw (by omega);have he:(fr.map Oc.c)[i]? =some x.c:=by rw[bM,hp];rfl
  obtain⟨⟨M,ok⟩,w'⟩:=s;have F:=gW (P:=af) (t:=3) (show i<=4611686018427387904 by omega);have J:∀d k,iJ d k (M.c (some 5) (some 3) (some 1))=true:=λ _ _=>rfl
  have G:(M.c (some 5) (some 3) (some 1))[2]? =some (.sl (M.V.map Oc.c) (some 3)):=rfl;unfold lw uJ ME;simp only;by_cases L:M.V.length<most/\ok=true
  .rw[ao L];have c1:((M.V.length:Int)<(most:Int))=True:=dw (by omega);by_cases hk:jV M/\qL M x/\M.E.length<=200
   case neg=>rw[aj hk];trivial
   rw[ao hk];obtain⟨D,k2,k3⟩:=hk;obtain⟨l1,K,ag⟩:=Rn D k2.ru M.V.length M.E.length;obtain⟨b1,Y,ak⟩:=Iq D k2.us;have ha:uX M x=some (M.add x l1 b1,decide (((M.E++l1).length:Int)<=200)):=by unfold uX;rw[K,Y]
   rw[ha];simp only;obtain⟨ru,ab,ae,ad⟩:=k2.ru;have ro:=D.ro ru (ni ab);have Z:∀v,VW gl base 46 [.ptr 0 52 0,.agg x.c] [[u8,(12,[.ptr 0 52 0]),(21,v),(52,M.c (some 5) (some 3) (some 1))]]=some (eB (decide (((M.E++l1).length:Int)<=200)),[[u8,(12,[.ptr 0 52 0]),(21,v),(52,(M.add x l1 b1).c (some 5) (some 3) (some 1))]],true):=by intro v;refine(w37 (S:=[[u8,(12,[.ptr 0 52 0]),(21,v),(52,M.c (some 5) (some 3) (some 1))]]) hB D.nb (d:=0) (k:=52) rfl (λ r hr=>?_) (by omega) (by have:=D.vl;omega) (by have:=D.vl;have:=D.cv;omega) (by have:=ro.ln;omega) (by have:=ro.le;omega) K (by omega) Y).trans rfl;have ro:=D.ro r hr;exact⟨ro.rc,by have:=ro.rn;omega,by have:=ro.ik;have:=ro.kl;omega,by have:=ro.re;omega,ro.ie⟩
   obtain⟨c2,rfl⟩:=L;have hd:decide (M.V.length<most/\True)=true:=by simp[c2]
   simp only[Oc.c]at Z;simp+decide only[A5,VB,lk,aB,↓reduceIte,Nat.reduceBEq,Nat.reduceAdd,FY,Kw,IK,aa5,MB,uH,kA,u8,A,aY he,Oc.c,J,G,aF,c1,aI q37,Z,F];simp only[dw c2,rO,Ns,rM]
  rw[aj L];simp only;have hd:decide (M.V.length<most/\ok=true)=false:=cX L;rw[hd,En];by_cases hv:M.V.length<most
  .have c1:((M.V.length:Int)<(most:Int))=True:=dw (by omega)
   have ac:ok=false:=by
    cases ok;.rfl
    exact(L ⟨hv,rfl⟩).elim
   subst ac;simp+decide only[A5,VB,lk,aB,↓reduceIte,Nat.reduceBEq,Nat.reduceAdd,FY,Kw,IK,MB,uH,kA,u8,A,aY he,Oc.c,J,G,aF,c1,F]
  have c1:((M.V.length:Int)<(most:Int))=False:=b6 (by omega);simp+decide only[A5,VB,lk,aB,↓reduceIte,Nat.reduceBEq,Nat.reduceAdd,FY,Kw,IK,MB,uH,kA,u8,A,aY he,Oc.c,J,G,aF,c1,F]
 .intro s;refine⟨?_,λ h=>by cases h⟩;simp+decide only[A5,VB,lk,aB,↓reduceIte,Nat.reduceBEq,Nat.reduceAdd,FY,jT,uH,kA,u8]
end
section
open Go.Proofs
variable{R:List RU}
variable{gl:aM}{base:eH}
abbrev sZ(R:List RU)(most:Nat)(a b:Bool):VT:=[(1,.sl (R.map RU.c) none),(3,eI most),(8,.ptr 0 8 0),(12,.ptr 0 12 0),(13,eB a),(14,eB b)]
abbrev PE(R:List RU)(most:Nat)(a:Bool):VT:=[(1,.sl (R.map RU.c) none),(3,eI most),(8,.ptr 0 8 0),(12,.ptr 0 12 0),(13,eB a),(56,eB false)]
def unE{a:Bool}(h:(b&&a)=false){s:(aT×Bool)×Bool}:aJ af gl (VW gl base) 122 Az (sZ R most a b) (kA s)=some (.exit 0,PE R most a,kA s):=by
 rw[Z6];cases b;.simp+decide only[AH,VB,lk,aB,↓reduceIte,Nat.reduceBEq,Nat.reduceAdd,KX,sZ,kA,u8]
 cases a;.simp+decide only[AH,VB,lk,aB,↓reduceIte,Nat.reduceBEq,Nat.reduceAdd,KX,sZ,kA,u8]
 cases h
def unR(hB:kK base)(hT:nD gl base)(hC:Al base){N:aT}(G:jV N)(hE:N.E.length<=200)(Y:N.R.length<=3){most:Nat}(h:xn N=some fr){M:aT}{ok:Bool}(L:bP (uJ most) fr (N,true)=some (.inl (M,ok)))(w:Bool):
 ∃w',aJ af gl (VW gl base) 122 AH (sZ N.R most true true) (kA ((N,true),w))=some (.normal,sZ N.R most ok (decide ((M.V.length:Int)>(N.V.length:Int))),kA ((M,ok),w')):=by
 have ab:=auU G (by omega) Y h
 have F:bP (pK N) N.R.zipIdx []=some (.inl fr):=by
  unfold xn at h;split at h;.rename_i r hr;cases h;exact hr
  cases h
 obtain⟨w1,K⟩:=Il (g:=λ s s':List Oc=>decide (s.length<s'.length)) (w:=w) (NL (B:=1000000000) (λ _ _ _ he=>aAE he) (rQ _) (by omega) F);have D:=frL (gl:=gl) (most:=most) (ok:=true) hB hT hC G.nb (by have:=G.vl;omega) (by omega) G.ro (by omega) K;obtain⟨w2,J⟩:=Il (g:=ME most) (w:=w1) L;have A:=adL (gl:=gl) (R:=N.R) (ev:=N.V.length) hB (by omega) J;have gV:∀M:aT,(M.c (some 5) (some 3) (some 1))[2]? =some (.sl (M.V.map Oc.c) (some 3)):=λ _=>rfl
 have gE:∀M:aT,(M.c (some 5) (some 3) (some 1))[1]? =some (.sl (M.E.map El.c) (some 5)):=λ _=>rfl
 have Z:∀(M:aT) d k,iJ d k (M.c (some 5) (some 3) (some 1))=true:=λ _ _ _=>rfl
 refine⟨w2,?_⟩;simp only[yK,yl,uH,kA,u8,zC,jS]at D A;have D:aJ af gl (VW gl base) 122 FR [(1,.sl (N.R.map RU.c) none),(3,eI most),(8,.ptr 0 8 0),(12,.ptr 0 12 0),(13,eB true),(15,eI N.E.length),(16,eI N.V.length),(17,.ptr 0 17 0),(69,.sl (N.R.map RU.c) none),(70,eI N.R.length),(71,eI 0)] {w:=w,cur:=[(8,[.sl [] (some 5),.sl [] (some 3)]),(12,[.ptr 0 52 0]),(17,[.sl [] (some 3)]),(52,N.c (some 5) (some 3) (some 1))],up:=[]}=_:=D;have A:aJ af gl (VW gl base) 122 EN [(1,.sl (N.R.map RU.c) none),(3,eI most),(8,.ptr 0 8 0),(12,.ptr 0 12 0),(13,eB true),(16,eI N.V.length),(86,.sl (fr.map Oc.c) none),(87,eI fr.length),(88,eI 0)] _=_:=A;simp+decide only[AH,VB,lk,aB,↓reduceIte,Nat.reduceBEq,Nat.reduceAdd,KX,ae9,ahG,WV,Xp,af2,sZ,kA,u8,gV,gE,Z,aF,D,A]
def unL(hB:kK base)(hT:nD gl base)(hC:Al base){R:List RU}{E0:List El}(hm:most<=30)(F:R.length<=3):∀{f:Nat} {N M:aT} {ok w:Bool},St R E0 most N->FP most f N=some (M,ok)->
 ∃w',aJ af gl (VW gl base) 122 Az (sZ R most true true) (kA ((N,true),w))=some (.exit 0,PE R most ok,kA ((M,ok),w'))
 |0,N,M,ok,w,_,h=>by cases h
 |f+1,N,M,ok,w,A,h=>by
  have G:=A.KZ.rules;obtain⟨fr,D⟩:=ad5 A.qB;obtain⟨hc,L⟩:=W3 D;obtain⟨⟨M1,K⟩,h1,h2,h3,h4⟩:=JY (N:=N) (R:=R) (E0:=E0) hm (s:=(N,true)) hc L (λ _=>⟨A,iD.refl N,λ y hy=>(hc y hy).pre⟩) ⟨by show N.E.length<=220;have:=A.len;omega,A.qB.vl⟩;obtain⟨w1,Z⟩:=unR (gl:=gl) hB hT hC A.qB A.len (by rw[G];exact F) D h1 w;rw[G]at Z
  have Y:aJ af gl (VW gl base) 122 Az (sZ R most true true) (kA ((N,true),w))=mY (aJ af gl (VW gl base) 122 Az) (aJ af gl (VW gl base) 122 AH (sZ R most true true) (kA ((N,true),w))):=by
   conv=>lhs;rw[Z6]
   simp+decide only[VB,lk,aB,↓reduceIte,Nat.reduceBEq,Nat.reduceAdd,sZ,kA,u8]
  rw[Y,Z,BX];simp only[FP,D,h1]at h;by_cases J:N.V.length<M1.V.length/\K=true;.rw[ao J]at h;obtain⟨g1,rfl⟩:=J;rw[dV (show(M1.V.length:Int)>(N.V.length:Int) by omega)];exact unL hB hT hC hm F (h2 rfl).1 h
  rw[aj J]at h;cases h;refine⟨w1,unE ?_⟩;by_cases g1:N.V.length<M.V.length
  .have:ok=false:=by
    cases ok;.rfl
    exact(J ⟨g1,rfl⟩).elim
   rw[this,aiD]
  rw[cX (show¬(M.V.length:Int)>(N.V.length:Int) by omega),aiA]
def DS:cy af 22=true:=by kernel_rfl
def q32:cy af 41=true:=by kernel_rfl
abbrev iK(tn te:aS):ae:=.agg [.sl tn none,.sl te none]
abbrev ll(R:List RU):ae:=.sl (R.map RU.c) none
abbrev kv(lN:List Int)(lE:List Ed):ae:=.agg [aD lN,dY lE]
abbrev o9(E:List El)(V:List Oc):ae:=.agg [.sl (E.map El.c) none,.sl (V.map Oc.c) none]
def w14(hB:kK base)(hT:nD gl base)(hC:Al base)(hR:∀r∈R,zg r)(N:R.length<=3){tn:aS}(hl:lN.length+lE.length<=200){ev G:Int}{Z:Bool}
 (h:∀S,VW gl base 22 [iK tn te,ll R] S=some (eI ev,S,false)) (J:∀S,VW gl base 39 [kv lN lE] S=some (eI G,S,false)) (Y:∀S,VW gl base 40 [iK tn te,kv lN lE] S=some (eB Z,S,false)) (hm:most<=30):
 ∃v,(∀S,VW gl base 16 [iK tn te,ll R,kv lN lE,eI most] S=some (v,S,false))/\((∃e:Int,e≠0/\v=.aL [o9 [] [],eI e])\/(ev=0/\G=0/\Z=true/\∃M,St R (fc lN lE) most M/\v=.aL [o9 M.E M.V,eI 0])):=by
 have A:=St.start hR hl most;obtain⟨M,ok,h1,h2,h3,h4⟩:=Wh (f:=32) hm A (by show most<0+32;omega);obtain⟨w',D⟩:=unL (gl:=gl) (w:=false) hB hT hC hm N A h1;have F:∀S,VW gl base 41 [kv lN lE] S=some (iP (fc lN lE),S,false):=λ S=>w32 (by omega) (by omega)
 have gV:(M.c (some 5) (some 3) (some 1))[2]? =some (.sl (M.V.map Oc.c) (some 3)):=rfl;have gE:(M.c (some 5) (some 3) (some 1))[1]? =some (.sl (M.E.map El.c) (some 5)):=rfl;have gU:jt true 2 (M.c (some 5) (some 3) (some 1)) 1=some (.agg [.sl (M.E.map El.c) (some 5),.sl (M.V.map Oc.c) (some 3)]):=rfl;simp only[sZ,PE,kA,u8,aT.c,Ny]at D;have D:aJ af gl (VW gl base) 122 Az [(1,.sl (R.map RU.c) none),(3,eI most),(8,.ptr 0 8 0),(12,.ptr 0 12 0),(13,eB true),(14,eB true)] _=_:=D;by_cases L:ev=0
 case neg=>
  refine⟨.aL [o9 [] [],eI ev],λ S=>iU (S':=[]) (w:=false) FC rfl rfl ?_,.inl ⟨ev,L,rfl⟩⟩;simp+decide only[bz,Cd,VB,lk,aB,↓reduceIte,Nat.reduceBEq,Nat.reduceAdd,Ce,BS,DI,acr,aI DS,h,b6 L,cX L,fM,fO,eM,cm,dh,dC,dW,cM];rfl
 subst L;by_cases K:G=0
 case neg=>
  refine⟨.aL [o9 [] [],eI G],λ S=>iU (S':=[]) (w:=false) FC rfl rfl ?_,.inl ⟨G,K,rfl⟩⟩;simp+decide only[bz,Cd,VB,lk,aB,↓reduceIte,Nat.reduceBEq,Nat.reduceAdd,Ce,BS,DI,F8,HE,Xo,aI DS,h,aI CP,J,b6 K,cX K,fM,fO,eM,cm,dh,dC,dW,cM];rfl
 subst K;cases Z;.refine⟨.aL [o9 [] [],eI 13],λ S=>iU (S':=[]) (w:=false) FC rfl rfl ?_,.inl ⟨13,by decide,rfl⟩⟩;simp+decide only[bz,Cd,VB,lk,aB,↓reduceIte,Nat.reduceBEq,Nat.reduceAdd,Ce,BS,DI,F8,HE,LU,acZ,aI DS,h,aI CP,J,aI FX,Y,fM,fO,eM,cm,dh,dC,dW,cM];rfl
 .have m1:((most:Int)<0)=False:=b6 (by omega);have m2:((most:Int)>30)=False:=b6 (by omega);cases ok;.refine⟨.aL [o9 [] [],eI 3],λ S=>iU (S':=[]) (w:=w') FC rfl rfl ?_,.inl ⟨3,by decide,rfl⟩⟩;simp+decide only[bz,Cd,VB,lk,aB,↓reduceIte,Nat.reduceBEq,Nat.reduceAdd,Ce,BS,DI,F8,HE,LU,Q2,Re,PJ,O7,TK,agU,aI DS,h,aI CP,J,aI FX,Y,aI q32,F,m1,m2,fM,fO,uC,uu,uR,uy,ft,fo,eM,cm,dh,dC,dW,cM,D];rfl
  refine⟨.aL [o9 M.E M.V,eI 0],λ S=>iU (S':=[]) (w:=w') FC rfl rfl ?_,.inr ⟨rfl,rfl,rfl,M,h2 rfl,rfl⟩⟩;simp+decide only[bz,Cd,VB,lk,aB,↓reduceIte,Nat.reduceBEq,Nat.reduceAdd,Ce,BS,DI,F8,HE,LU,Q2,Re,PJ,O7,TK,aey,aI DS,h,aI CP,J,aI FX,Y,aI q32,F,m1,m2,fM,fO,uC,uu,uR,uy,ft,fo,eM,cm,dh,dC,dW,cM,D,gU];rfl
end
section
open Go.Proofs
variable{gl:aM}{base:eH}
def Cn(P:Program)(f:Field):Nat:=match P.underlying f.type with|some .bool=>0|some (.int _)=>1|_=>2
def ajG{f:Field}(h:Cn P f=0):P.underlying f.type=some .bool:=by
 unfold Cn at h;split at h;.assumption
 .cases h
 cases h
def KQ{f:Field}(h:Cn P f=1):∃k,P.underlying f.type=some (.int k):=by
 unfold Cn at h;split at h;.cases h
 .exact⟨_,by assumption⟩
 cases h
def Y5(P:Program)(t:TypeId):Bool:=match P.underlying t with
 |some (.struct fs)=> !P.stoodInHeld t&&(!P.eqGuardType P.depth t&&(ET P 0 fs.toList&&(Nat.beq 5 fs.toList.length&&decide (fs.toList.map (Cn P)=[0,1,1,1,1]))))
 |_=>false
def awI:Y5 af 91=true:=by kernel_rfl
def ay5{fs:List Field}(h:fs.map (Cn P)=[0,1,1,1,1]){a:Bool}{M L K J:IntKind}{n1 G F D:Int}:nQ P fs [.bool a,.int M n1,.int L G,.int K F,.int J D] [.bool a,.int M n1,.int L G,.int K F,.int J D]=some true:=by
 have A:fs.length=5:=by have:=dc List.length h;simpa using this
 match fs,A with
 |[f0,f1,f2,f3,f4],_=>
  simp only[fL,Ny,rG,rO]at h;obtain⟨h0,Z,Y,h3,N⟩:=h;have e0:=ajG h0;obtain⟨u1,e1⟩:=KQ Z;obtain⟨u2,e2⟩:=KQ Y;obtain⟨u3,e3⟩:=KQ h3;obtain⟨u4,e4⟩:=KQ N;simp only[nQ,e0,e1,e2,e3,e4,Vw,Ns]
def axe{x:El}:dn af .neq 91 (.agg x.c) (.agg x.c)=some (eB false):=by
 have h:=awI;unfold Y5 at h;split at h
 .rename_i fs D;simp only[aR,Ia,Ek]at h;obtain⟨a1,a2,a3,a4,J⟩:=h;have F:qb af 91 (.agg [.bool x.ed,.int .i64 x.ty,.int .i64 x.fr,.int .i64 x.to,.int .i64 x.ev]) (.agg [.bool x.ed,.int .i64 x.ty,.int .i64 x.fr,.int .i64 x.to,.int .i64 x.ev])=some true:=by simp only[qb,D,a1,a2,a3,a4,cD,dG,iX,Nat.reduceAdd];exact ay5 J
  have G:cV af .neq 91 (.agg [.bool x.ed,.int .i64 x.ty,.int .i64 x.fr,.int .i64 x.to,.int .i64 x.ev]) (.agg [.bool x.ed,.int .i64 x.ty,.int .i64 x.fr,.int .i64 x.to,.int .i64 x.ev])=some (.bool false):=by simp only[cV,F,Vx]
  have A:rj (.agg x.c)=some (.agg [.bool x.ed,.int .i64 x.ty,.int .i64 x.fr,.int .i64 x.to,.int .i64 x.ev]):=rfl;simp only[dn,A,G];rfl
 cases h
def w45{l:List El}(K:l.length<=1000000):VW gl base 53 [.sl (l.map El.c) none,.sl (l.map El.c) none] S=some (eB true,S,false):=by
 refine iU (S':=[]) (w:=false) m45 rfl rfl ?_
 have D:=pg (P:=af) (gl:=gl) (Z7:=VW gl base) (n:=26) (l:=l) (C:=MI) (B:=Ho) (f:=λ _ s=>some (.inl s))
  (TT:=λ i (_:Unit)=>[(0,.sl (l.map El.c) none),(1,.sl (l.map El.c) none),(12,eI l.length),(13,eI i)]) (ST:=λ _=>(aH [] []))
  (X:=λ _=>(.exit 0,[(0,.sl (l.map El.c) none),(1,.sl (l.map El.c) none),(12,eI l.length),(13,eI l.length),(14,eB false)],(aH [] []))) ?_ ?_ ?_ () (.inl ()) (by
   induction l with
   |nil=>rfl
   |cons a l G=>simp only[bP];exact G (by simp only[cD]at K;omega))
 .have D:aJ af gl (VW gl base) 26 MI [(0,.sl (l.map El.c) none),(1,.sl (l.map El.c) none),(12,eI l.length),(13,eI 0)] _=_:=D;simp+decide only[bz,F45,VB,lk,aB,↓reduceIte,Nat.reduceBEq,Nat.reduceAdd,aad,afY,aeR,adk,aF,D]
 .intro i s;rw[apx];simp+decide only[VB,lk,aB,↓reduceIte,Nat.reduceBEq,Nat.reduceAdd]
 .intro i s x hi J;have A:((i:Int)<(l.length:Int))=True:=dw (by omega);have L:(l.map El.c)[i]? =some x.c:=by rw[bM,J];rfl
  have F:=axe (x:=x);simp only[El.c]at F;simp+decide only[Ho,VB,lk,aB,↓reduceIte,Nat.reduceBEq,Nat.reduceAdd,TF,ahh,ZW,WL,A,aY L,El.c,F,gW (show i<=4611686018427387904 by omega)]
 intro s;refine⟨?_,λ h=>by cases h⟩;simp+decide only[Ho,VB,lk,aB,↓reduceIte,Nat.reduceBEq,Nat.reduceAdd,TF,jT]
end
section
open Go.Proofs
variable{a b:ae}{l:List ae}
variable{gl:aM}{base:eH}
def Oa(base:eH):Prop:=bset 51=true/\∀a:List El,a.length<=1000->base 51 [.sl (a.map El.c) none]=some (iP a)
def GM:sd 0 (.aL (a::l))=some (bD a):=rfl
def GA:sd 1 (.aL (a::b::l))=some (bD b):=rfl
def U3{c:ae}:sd 2 (.aL (a::b::c::l))=some (bD c):=rfl
def q43:cy af 51=true:=by kernel_rfl
def q44:cy af 52=true:=by kernel_rfl
def q45:cy af 53=true:=by kernel_rfl
def q42:cy af 50=true:=by kernel_rfl
def asw{x:Oc}{M:aT}{r:aT⊕bZ}(h:r8 vE x M=some r):∃A,r=.inl A/\fits M x M.E.length=some true/\sO M x=false/\rF M x=some true/\uX M x=some (A,true)/\(A.E.length<=vE.length/\(vE.take A.E.length).drop M.E.length=A.E.drop M.E.length)/\jV M/\qL M x/\M.E.length<=200:=by
 unfold r8 at h;split at h
 .rename_i A J G h3 F;split at h;.rename_i D;cases h;exact⟨A,rfl,J,G,h3,F,D.1,D.2.1,D.2.2.1,D.2.2.2⟩
  cases h
 cases h
def Xx{es:aS}{o:Option Nat}{D A:IntKind}(h0:i<=j)(h:j<=es.length)(F:fR sz es=true):nf (some sz) false (.sl es o) (some (.sc (.int D (i:Int)))) (some (.sc (.int A (j:Int))))=some (.sl ((es.take j).drop i) none):=by show(if i<=j/\j<=es.length/\fR sz es=true then some (ae.sl ((es.drop i).take (j-i)) none)else none)=_;rw[ao ⟨h0,h,F⟩,zG]
abbrev yG(vV:List Oc)(i:Nat):VT:=[(5,.ptr 0 5 0),(7,.ptr 0 7 0),(9,.ptr 0 9 0),(12,.ptr 0 46 0),(48,.sl (vV.map Oc.c) none),(49,eI vV.length),(50,eI i)]
abbrev yq(vE:List El)(vV:List Oc)(lN:List Int)(lE:List Ed)(s:aT×Bool):aq:={w:=s.2,cur:=[(5,[.sl (vE.map El.c) none,.sl (vV.map Oc.c) none]),(7,[.sl [] (some 1),.sl [] (some 3)]),(9,[aD lN,dY lE]),(46,s.1.c (some 5) (some 3) (some 1))],up:=[]}
def aoh(hB:kK base)(hT:nD gl base){vV:List Oc}(hE:vE.length<=1000)(hV:vV.length<=1000){s0 r:aT×Bool}(h:bP (lw (r8 vE) (λ _ _=>true)) vV s0=some (.inl r)):
 aJ af gl (VW gl base) 125 HF (yG vV 0) (yq vE vV lN lE s0)=some (.exit 0,yG vV vV.length++[(51,eB false)],yq vE vV lN lE r):=by
 have hL:=pg (P:=af) (gl:=gl) (Z7:=VW gl base) (n:=125) (l:=vV) (C:=HF) (B:=GB) (f:=lw (r8 vE) (λ _ _=>true))
  (TT:=λ i _=>yG vV i) (ST:=λ s=>yq vE vV lN lE s)
  (X:=λ s=>(.exit 0,yG vV vV.length++[(51,eB false)],yq vE vV lN lE s)) ?_ ?_ ?_ s0 _ h
 .exact hL
 .intro i s;rw[az3];simp+decide only[VB,lk,aB,↓reduceIte,Nat.reduceBEq,Nat.reduceAdd,yG,yq]
 .intro i s x hi hp;have Y:((i:Int)<(vV.length:Int))=True:=dw (by omega);have he:(vV.map Oc.c)[i]? =some x.c:=by rw[bM,hp];rfl
  obtain⟨M,w'⟩:=s;have aj:=gW (P:=af) (t:=3) (show i<=4611686018427387904 by omega);have an:∀(M:aT) d k,iJ d k (M.c (some 5) (some 3) (some 1))=true:=λ _ _ _=>rfl
  have gE:∀M:aT,(M.c (some 5) (some 3) (some 1))[1]? =some (.sl (M.E.map El.c) (some 5)):=λ _=>rfl
  unfold lw;simp only;cases hr:r8 vE x M;.trivial
  rename_i r';obtain⟨M',rfl,f1,f2,f3,f4,⟨f5,f6⟩,K,f8,f9⟩:=asw hr;simp only;obtain⟨A,Z,av⟩:=Rn K f8.ru M.V.length M.E.length;obtain⟨b1,ab,ax⟩:=Iq K f8.us;have ha:uX M x=some (M.add x A b1,decide (((M.E++A).length:Int)<=200)):=by unfold uX;rw[Z,ab]
  rw[ha]at f4;simp only[lz,Ei]at f4;obtain⟨rfl,f4⟩:=f4;obtain⟨ru,am,ar,ap⟩:=f8.ru;have ro:=K.ro ru (ni am);have G:x.no.length<=1000:=by have:=ro.ln;omega
  have J:x.ed.length<=1000:=by have:=ro.le;omega
  have au:=K.vl;have aw:=K.cv;have ac:∀F,lk F 46=some (M.c (some 5) (some 3) (some 1))->VW gl base 52 [.ptr 0 46 0,.agg x.c,eI M.E.length] [F]=some (eB true,[F],false):=λ F L=>w44 K.nb (d:=0) (k:=46) (by exact L) G J f1
  have ai:∀F,lk F 46=some (M.c (some 5) (some 3) (some 1))->VW gl base 44 [.ptr 0 46 0,.agg x.c] [F]=some (eB false,[F],false):=λ F L=>by rw[w35 (d:=0) (k:=46) (N:=M) (by exact L) (by omega) G J,f2]
  have ag:∀F,lk F 46=some (M.c (some 5) (some 3) (some 1))->VW gl base 45 [.ptr 0 46 0,.agg x.c] [F]=some (eB true,[F],false):=λ F L=>w36 hB hT K.nb (d:=0) (k:=46) (by exact L) G J f3
  have ad:∀F,lk F 46=some (M.c (some 5) (some 3) (some 1))->VW gl base 46 [.ptr 0 46 0,.agg x.c] [F]=some (eB true,[mN F 46 ((M.add x A b1).c (some 5) (some 3) (some 1))],true):=λ F L=>by
   have:=w37 (gl:=gl) (S:=[F]) hB K.nb (d:=0) (k:=46) (by exact L) (λ r hr=>by have ro:=K.ro r hr;exact⟨ro.rc,by have:=ro.rn;omega,by have:=ro.ik;have:=ro.kl;omega,by have:=ro.re;omega,ro.ie⟩) (by omega) (by omega) (by omega) G J Z (by omega) ab
   rw[f4]at this;exact this
  have D:M.E.length<=(M.add x A b1).E.length:=(iD.add M x A b1).e.length_le;have al:nf (some 5) false (.sl ((M.add x A b1).E.map El.c) none) (some (.sc (.int .i64 (M.E.length:Int)))) (some (.sc (.int .i64 ((M.add x A b1).E.length:Int))))=some (.sl (((M.add x A b1).E.drop M.E.length).map El.c) none):=by rw[Xx D (by rw[aF];exact be _) Mo];have:((M.add x A b1).E.map El.c).take (M.add x A b1).E.length=(M.add x A b1).E.map El.c:=mB (by rw[aF];exact be _);rw[this,Nz]
  have ak:nf (some 5) false (.sl (vE.map El.c) none) (some (.sc (.int .i64 (M.E.length:Int)))) (some (.sc (.int .i64 ((M.add x A b1).E.length:Int))))=some (.sl (((M.add x A b1).E.drop M.E.length).map El.c) none):=by rw[Xx D (by rw[aF];exact f5) Mo,<-BG,<-Nz,f6]
  have ao:=λ S=>w45 (gl:=gl) (base:=base) (l:=(M.add x A b1).E.drop M.E.length) (S:=S) (by rw[xz];omega)
  have g1:(((M.add x A b1).E.length:Int)>(vE.length:Int))=False:=b6 (by omega);generalize ay:M.add x A b1=M' at*;simp only[Oc.c]at ac ai ag ad;simp+decide only[GB,VB,lk,aB,↓reduceIte,Nat.reduceBEq,Nat.reduceAdd,Qf,W0,VO,XU,agG,ah5,XP,yG,yq,Y,aY he,Oc.c,an,gE,aF,aI q44,ac,aI J7,ai,aI O2,ag,aI q37,ad,al,ak,aI q45,ao,g1,aj]
 .intro s;refine⟨?_,λ h=>by cases h⟩;simp+decide only[GB,VB,lk,aB,↓reduceIte,Nat.reduceBEq,Nat.reduceAdd,Qf,jT,yG,yq]
end
section
open Go.Proofs
variable{ng:Nat}{gl:aM}{G:Gh}{H:ah}{I:Im}
theorem aoz(k:Nat):YQ (iv ng (k+1)):=λ H s bs g h A=>by obtain⟨r,F,D⟩:=aw4 (ng:=ng) (Z7:=iv ng k) g h A;grind[sX]
theorem ajK(k:Nat):aaP (iv ng (k+2)):=λ I H lE n bs Z sE s1 s2 g L M A D Y N F K J h=>by obtain⟨r,h3,h4⟩:=apM (ng:=ng) (aoz (ng:=ng) k) g L M A D Y N F K J h;grind[sX]
theorem Me{v w:ae}(h:bB ρ0 I [v,w] xs):∃a b,xs=[a,b]/\aA ρ0 I v a/\aA ρ0 I w b:=by obtain⟨c,cs,rfl,J,D⟩:=cf.1 h;obtain⟨K,F,rfl,h3,A⟩:=cf.1 D;simp only[bB]at A;grind
theorem axV(k:Nat)(A:cn G (dA []) H)(hn:lN.length<=10)(hm:lE.length<=20)(J:∀e∈lE,(0<=e.fr/\e.fr<lN.length)/\(0<=e.to/\e.to<lN.length))(h:∀i,i<lN.length->rm a i=true)
 (hr:bB ρ0 G.I [.agg [aD lN,.sl (lE.map Ed.c) none],eW a] xs):kr 0 G [] H (iv ng (k+3) 11 xs H) (.agg [aD (fF 0 (List.replicate lN.length true) []),aD (fF 0 (pc a lN.length lE.length) [])]) [] false:=by
 obtain⟨x,y,rfl,Y,N⟩:=Me hr;simp only[aA]at Y N;obtain⟨_,bs,rfl,h3⟩:=Y;obtain⟨sN,sE,rfl,F,D⟩:=Me h3;have oN:=vp F rfl;have oE:=vp D rfl;have F:RP G.I (aD lN) sN:=by simpa only[aA]using F
 have D:RP G.I (.sl (lE.map Ed.c) none) sE:=by simpa only[aA]using D
 obtain⟨rfl,_⟩:=N;obtain⟨r,M,q2,q3,u,v,fu,fv,L,q5,q6,Z,q8⟩:=amH (ng:=ng) (ajK (ng:=ng) k) A.gd A.fJ F D oN oE hn hm J h;rw[sX (by decide) (by decide) (by decide) M];obtain⟨w,H'⟩:=r;simp only at L;subst L;have K:=DQ (yW (ng:=ng) (k+2)) M;have r1:=q5.rp (I:=G.I) A.gd q2 K q6 (es:=(fF 0 (List.replicate lN.length true) []).map λ n=>[eI n]) (by rw[aF]) JU;have r2:=Z.rp (I:=G.I) A.gd q2 K q8 (es:=(fF 0 (pc a lN.length lE.length) []).map λ n=>[eI n]) (by rw[aF]) JU;refine Ip A q3 q2 K ?_ λ j es sz c e e2=>?_
 .simp only[aA];refine⟨rfl,_,rfl,cf.2 ⟨u,[v],rfl,by simpa only[aA]using r1,cf.2 ⟨v,[],rfl,by simpa only[aA]using r2,by simp only[bB]⟩⟩⟩
 grind[ae.cells]
open Classical in
noncomputable def bV(f:FuncId)(args:List ae):Option ae:=
 if f=51 then(match args with
  |[.sl es none]=>if∃l:List El,l.length<=1000/\es=l.map El.c then some (.sl es (some 5))else none
  |_=>none)
 else if f=82 then(match args with
  |[.sl es none]=>if∃l:List Int,l.length<=1000/\es=l.map (λ n=>[eI n])then some (.sl es (some 1))else none
  |_=>none)
 else if f=57 then(match args with
  |[.sl [[.sl a none],[.sl b none]] none]=>if∃l k:List Int,l.length<=1000/\k.length<=1000/\a=l.map (λ n=>[eI n])/\b=k.map (λ n=>[eI n])then some (.sl (a++b) none)else none
  |_=>none)
 else if f=162 then(match args with
  |[.agg [.sl tn none,.sl _ none],.sc (.int .i64 a)]=>if ta tn/\0<=a/\a<tn.length/\tn.length<=50 then some (.sl (eA tn (a.toNat+1) a) (some 4))else none
  |_=>none)
 else if f=177 then(match args with
  |[.agg [.sl tn none,.sl _ none],.sc (.int .i64 a)]=>if Cv tn/\0<=a/\a<tn.length then some (aD (jf tn (a.toNat+1) a).reverse)else none
  |_=>none)
 else if f=263 then(match args with
  |[.sl es none]=>if h:∃l:List Int,l.length<=1000/\es=l.map (λ n=>[eI n])then some (eI ((Lib.compact (mH (Classical.choose h))).length:Int))else none
  |_=>none)
 else if f=11 then(match args with
  |[.agg [.sl n none,.sl e none],.sc (.int .u64 s)]=>if∃(lN:List Int) (lE:List Ed) (a:BitVec 64),n=lN.map (λ n=>[eI n])/\e=lE.map Ed.c/\s=a.toNat/\lN.length<=10/\lE.length<=20/\(∀e∈lE,(0<=e.fr/\e.fr<lN.length)/\(0<=e.to/\e.to<lN.length))/\(∀i,i<lN.length->rm a i=true)then some (.agg [aD (fF 0 (List.replicate n.length true) []),aD (fF 0 (pc (BitVec.ofInt 64 s) n.length e.length) [])])else none
  |_=>none)
 else none
def aV(ng:Nat):aW:=λ f args H=>if bset f=true then iv ng 60 f args H else none
def anw(A:sK af):jN af ng (aV ng):=λ f args H v H' h=>by
 unfold aV at h;split at h;.exact Uz A 60 _ _ _ _ _ h
 cases h
def ai6:gS (aV ng):=λ f args H v H' h=>by
 unfold aV at h;split at h;.exact GQ 60 _ _ _ _ _ h
 cases h
theorem map_inj{k:List Int}(h:l.map (λ n=>[eI n])=k.map (λ n=>[eI n])):l=k:=by grind[List.map_inj_right]
theorem aum:ahJ ng gl bset bV (aV ng):=by
 refine⟨λ f args v M h ho Z G H xs J Y K=>?_,λ f xs H M=>by grind[aV]⟩;unfold aV;rw[ao M];unfold bV at h;split at h
 .rename_i A;subst A;split at h
  .split at h;.rename_i D;obtain⟨l,F,rfl⟩:=D;cases h;exact aka 59 J F K
   cases h
  cases h
 split at h
 .rename_i A;subst A;split at h
  .split at h;.rename_i D;obtain⟨l,F,rfl⟩:=D;cases h;exact ajT 59 J F K
   cases h
  cases h
 split at h
 .rename_i A;subst A;split at h
  .split at h;.rename_i D;obtain⟨l,k,F,L,rfl,rfl⟩:=D;cases h;have:=apz (ng:=ng) 58 J F L K;rw[<-mT];exact this
   cases h
  cases h
 split at h
 .rename_i A;subst A;split at h
  .rename_i tn te a;split at h;.rename_i D;obtain⟨F,L,h3,N⟩:=D;cases h;obtain⟨i,rfl⟩:∃i:Nat,a=i:=⟨a.toNat,by omega⟩;exact ali (ng:=ng) 59 J Y F (by omega) (by omega) (by omega) K
   cases h
  cases h
 split at h
 .rename_i A;subst A;split at h
  .rename_i tn te a;split at h;.rename_i D;obtain⟨F,L,h3⟩:=D;cases h;obtain⟨i,rfl⟩:∃i:Nat,a=i:=⟨a.toNat,by omega⟩;exact ayE (ng:=ng) 58 J F (by omega) K
   cases h
  cases h
 split at h
 .rename_i A;subst A;split at h
  .rename_i es;split at h;.grind[Classical.choose_spec,Classical.choose,aiZ]
   cases h
  cases h
 split at h
 .rename_i A;subst A;split at h
  .split at h;.rename_i D;obtain⟨lN,lE,a,rfl,rfl,rfl,F,L,h3,N⟩:=D;cases h;have:=axV (ng:=ng) 57 J F L h3 N K;grind[List.length_map,uM]
   cases h
  cases h
 cases h
def QA:Al bV:=⟨rfl,λ a h=>by simp only[bV];rw[aj (by decide),ao trivial,ao ⟨a,h,rfl⟩]⟩
def ajW:Oa bV:=⟨rfl,λ a h=>by simp only[bV];rw[ao trivial,ao ⟨a,h,rfl⟩]⟩
def aee:kK bV:=⟨rfl,λ a b A h=>by simp only[bV];rw[aj (by decide),aj (by decide),ao trivial,ao ⟨a,b,A,h,rfl,rfl⟩,<-mT]⟩
end
end
end Go.Abs
