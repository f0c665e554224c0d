/- Contracts by hand. -/
import Derived.Test.YtkhnencepibcpaaGreatF
import Derived.Test.YtkhnencepibcpaaGreatI
import Derived.Test.YtkhnencepibcpaaGreatL
import Derived.Test.YtkhnencepibcpaaGreatM
import Derived.Test.YtkhnencepibcpaaGreatN
import Derived.Lib.SlicesCompact
set_option linter.all false
set_option maxRecDepth 100000
open Bool renaming false->W,true->V
open Int renaming ofNat->gu,toNat_natCast->avZ
open List renaming getElem?_eq_none->adl,length_append->abY,length_map->HY,mem_of_getElem?->aqO,range->vv
open Option renaming none->X,some->O
open _root_ renaming Bool->mi,Int->U,List->B,Nat->R,decide_eq_true->aAJ,rfl->Q,trivial->sp
namespace Go.Abs
noncomputable section
open Go Go.Proofs
variable{a b d j:U}{e:be}{i m n:R}{l:sY}{ns:aK}{p:Prop}{ρ:bC}
section
variable{p q:zj}
variable{TN TE:aP}{gl:bH}{base:fi}
def jr(ρ:bC)(n:R)(l:sY):bC:=λ x=>if x<n then ρ x else l.getD (x-n) SV.z
def nC:dj n ρ (jr ρ n l):=λ x hx=>by unfold jr;rw[aY hx]
theorem nF(x:R)(hx:n+l.length<=x):jr ρ n l x=SV.z:=by grind[jr,adl]
theorem aap(h:de (aC TN TE) 0 [a,b] j e):∃v,e=[eI v]/\a<=v/\v<=b:=by
 obtain⟨_,u,h1,h2,D,y⟩:=(iO iB (nm:=0) (d:=⟨5,2,[.int .i64 4 0],[.le 1 4 0,.le 4 2 0]⟩) Q).1 h;have e1:aX u 1=⟨a,W,[],[]⟩:=fP (λ l=>aX l 1) h1;have e2:aX u 2=⟨b,W,[],[]⟩:=fP (λ l=>aX l 2) h1;have A:(aX u 1).i<=(aX u 4).i+0:=y (.le 1 4 0) aw;have F:(aX u 4).i<=(aX u 2).i+0:=y (.le 4 2 0) aw;rw[e1]at A;rw[e2]at F;refine⟨(aX u 4).i+0,D,?_,?_⟩;.show a<=_;exact A
 grind
theorem aGY(h:de (aC TN TE) 1 [] j e):e=[eI j]:=by obtain⟨_,u,h1,h2,y,A⟩:=(iO iB (nm:=1) (d:=⟨2,0,[.int .i64 1 0],[]⟩) Q).1 h;have e1:aX u 1=⟨j,W,[],[]⟩:=fP (λ l=>aX l 1) h1;rw[y];show[ak.sc (.int .i64 ((aX u 1).i+0))]=_;grind
def asF(h:de (aC TN TE) 9 [] j e):∃v:U,e=[eI v]:=by obtain⟨_,y,h1,h2,u,A⟩:=(iO iB (nm:=9) (d:=⟨3,0,[.int .i64 2 0],[]⟩) Q).1 h;exact⟨_,u⟩
theorem YK{P:R->U->Prop}:∀{l:aP} {k:R},(∀(i:R) e,l[i]? =O e->∃v,e=[eI v]/\P (k+i) v)->∃z:aK,l=z.map (λ n=>[eI n])/\∀(i:R) v,z[i]? =O v->P (k+i) v
 |[],k,_=>⟨[],Q,λ i v h=>by simp at h⟩
 |x::l,k,h=>by
  obtain⟨v,rfl,h1⟩:=h 0 x Q;obtain⟨z,rfl,A⟩:=YK (l:=l) (k:=k+1) (P:=P) λ i e u=>by obtain⟨v,e1,e2⟩:=h (i+1) e u;grind[Nat.add_assoc,Nat.add_comm]
  refine⟨v::z,Q,λ i w y=>?_⟩;grind[Nat.add_assoc,Nat.add_comm]
theorem Er{x:R}{c:U}(h:cL (aC TN TE) ρ (.sl x n c 0 [p,q])):∃z:aK,(ρ x).l=z.map (λ n=>[eI n])/\(z.length:U)=(ρ n).i+c/\∀v∈z,cM ρ p<=v/\v<=cM ρ q:=by
 obtain⟨h1,h2⟩:=h;obtain⟨z,y,A⟩:=YK (k:=0) (P:=λ _ v=>cM ρ p<=v/\v<=cM ρ q) λ i e u=>by obtain⟨v,e1,e2,e3⟩:=aap (h2 i e u);exact⟨v,e1,e2,e3⟩
 grind[HY,List.getElem?_of_mem]
theorem Ha{x:R}{c:U}(h:cL (aC TN TE) ρ (.sl x n c 1 [])):∃m:R,(ρ x).l=(bI m).map (λ n=>[eI n])/\(m:U)=(ρ n).i+c:=by obtain⟨h1,h2⟩:=h;refine⟨(ρ x).l.length,?_,h1⟩;apply sI;grind[List.getElem?_eq_getElem,aGY,bI,adl]
theorem Cm{x:R}{c:U}{z:aK}(hx:(ρ x).l=z.map (λ n=>[eI n]))(A:(z.length:U)=(ρ n).i+c)(h:∀v∈z,cM ρ p<=v/\v<=cM ρ q):cL (aC TN TE) ρ (.sl x n c 0 [p,q]):=by
 refine⟨by grind[HY],λ i e u=>?_⟩;rw[hx,mu]at u;cases y:z[i]?;.rw[y]at u;cases u
 rename_i v;grind[aqO,adr]
end
section
variable{TN TE:aP}{gl:bH}{base:fi}
theorem KC(h:p:=by grind[cM]):p:=h
theorem aqE(K:C7 base):dA (vω af pol gl bset base) (aC TN TE) 392 Ef none:=by
 intro ρ h0 Y u _;have P:=z0 h0;obtain⟨a,ha,J⟩:=Ha (TN:=TN) (TE:=TE) (u (.sl 2 4 0 1 []) (by simp[Ef]));obtain⟨im,hi,F,D⟩:=Er (TN:=TN) (TE:=TE) (u (.sl 3 4 0 0 [(0,(-1)),(0,1000)]) (by simp[Ef]));have N:(ρ 4).i<=(ρ 1).i+0:=u (.le 4 1 0) (by simp[Ef]);have M:(ρ 1).i<=(ρ 0).i+1000:=u (.le 1 0 1000) (by simp[Ef]);obtain⟨m,hm⟩:∃m:R,(ρ 1).i=m:=⟨(ρ 1).i.toNat,aa⟩;obtain⟨r,r1,r2,r3⟩:=aHO (r:=(.aq,⟨.nil,.nil,0⟩)) (gl:=gl) K (m:=m) (at_:=bI a) (im:=im) (lo:= -1) (hi:=1000) aa cB cB (by simp[bI];omega) (by simp[bI];omega) (λ k Z=>by grind[bI]) (λ x hx=>KC)
 refine⟨_,cJ.2 Q,jr ρ 5 [⟨0,W,[],r.map (λ n=>[eI n])⟩],nC,λ x hx=>nF x hx,λ S=>?_,λ f y=>?_⟩;.show VW gl base 392 [.sc (.int .i64 ((ρ 1).i+0)),.sl (ρ 2).l none,.sl (ρ 3).l none] S=O (.sl (r.map (λ n=>[eI n])) none,S,W);grind
 have y:f=.sl 5 1 0 0 [(0,(-1)),(0,1000)]:=by simpa[Ef]using y
 subst y;exact Cm (z:=r) Q (by show(r.length:U)=(ρ 1).i+0;omega) λ v A=>by have:=r2 v A;show(ρ 0).i+ -1<=v/\v<=(ρ 0).i+1000;omega
theorem aCW(J:C7 base):dA (vω af pol gl bset base) (aC TN TE) 263 Ek none:=by
 intro ρ h0 Y u _;have P:=z0 h0;obtain⟨l,Z,F,D⟩:=Er (TN:=TN) (TE:=TE) (u (.sl 1 3 0 0 [(0,(-1)),(2,(-1))]) (by simp[Ek]));have N:(ρ 3).i<=(ρ 0).i+1000:=u (.le 3 0 1000) (by simp[Ek]);have M:(ρ 0).i<=(ρ 2).i+0:=u (.le 0 2 0) (by simp[Ek]);have K:(ρ 2).i<=(ρ 0).i+1000:=u (.le 2 0 1000) (by simp[Ek]);obtain⟨m,hm⟩:∃m:R,(ρ 2).i=m:=⟨(ρ 2).i.toNat,aa⟩;obtain⟨r,r1,r2,r3⟩:=aqU (gl:=gl) J (m:=m) (l:=l) aa aa (λ k hk=>KC);refine⟨_,cJ.2 Q,jr ρ 4 [⟨0,W,[],r.map (λ n=>[eI n])⟩],nC,λ x hx=>nF x hx,λ S=>?_,λ f y=>?_⟩;.show VW gl base 263 [.sl (ρ 1).l none,.sc (.int .i64 ((ρ 2).i+0))] S=O (.sl (r.map (λ n=>[eI n])) none,S,W);grind
 have y:f=.sl 4 2 0 0 [(0,(-1)),(3,(-1))]:=by simpa[Ek]using y
 subst y;exact Cm (z:=r) Q (by show(r.length:U)=(ρ 2).i+0;omega) λ v A=>by have:=r2 v A;show(ρ 0).i+ -1<=v/\v<=(ρ 3).i+ -1;omega
theorem AU(h:p:=by simp[Nc]):p:=h
theorem axf(hR:C7 base):dA (vω af pol gl bset base) (aC TN TE) 235 Nc none:=by
 intro ρ h0 hn u _;have hz:=z0 h0;obtain⟨a,ha,ab⟩:=Ha (TN:=TN) (TE:=TE) (u (.sl 2 7 0 1 []) AU);obtain⟨b,hb,Z⟩:=Ha (TN:=TN) (TE:=TE) (u (.sl 3 7 0 1 []) AU);obtain⟨tk,ht,M,K⟩:=Er (TN:=TN) (TE:=TE) (u (.sl 5 8 0 0 [(0,(-1)),(0,99)]) AU);obtain⟨ma,hm,Y,P⟩:=Er (TN:=TN) (TE:=TE) (u (.sl 4 9 0 0 [(0,0),(8,(-1))]) AU);have p1:(ρ 7).i<=(ρ 1).i+0:=u (.le 7 1 0) AU;have p2:(ρ 1).i<=(ρ 0).i+8:=u (.le 1 0 8) AU;have p3:(ρ 0).i<=(ρ 7).i+0:=u (.le 0 7 0) AU;have p4:(ρ 7).i<=(ρ 9).i+0:=u (.le 7 9 0) AU;have p5:(ρ 0).i<=(ρ 6).i+0:=u (.le 0 6 0) AU;have p6:(ρ 6).i<=(ρ 0).i+80:=u (.le 6 0 80) AU;obtain⟨m,N⟩:∃m:R,(ρ 1).i=m:=⟨(ρ 1).i.toNat,aa⟩;have D:a=b:=aa;subst D;have F:∀k∈bI a,∃j:R,j<a/\k=j:=λ k y=>by simp only[bI,lO,Ox]at y;grind
 obtain⟨r,r1,r2,r3⟩:=aAw (gl:=gl) hR (m:=m) (kp:=bI a) (into:=bI a) (ma:=ma) (tr:=tk) (n:=(ρ 6).i) (hi:=100) aa (aZ _) (by simp[bI];omega)
  (λ k y=>bP) (λ k y=>bP) (λ k y=>KC)
  (λ x hx=>KC) aa aa aa aa
 refine⟨_,cJ.2 Q,jr ρ 10 [⟨0,W,[],r.map (λ n=>[eI n])⟩],nC,λ x hx=>nF x hx,λ S=>?_,λ f A=>?_⟩;.show VW gl base 235 [.sc (.int .i64 ((ρ 1).i+0)),.sl (ρ 2).l none,.sl (ρ 3).l none,.sl (ρ 4).l none,.sl (ρ 5).l none,.sc (.int .i64 ((ρ 6).i+0))] S=O (.sl (r.map (λ n=>[eI n])) none,S,W);grind
 have A:f=.sl 10 1 0 0 [(0,0),(0,100)]:=by simpa[Nc]using A
 subst A;exact Cm (z:=r) Q (by show(r.length:U)=(ρ 1).i+0;omega) λ v J=>by have:=r2 v J;show(ρ 0).i+0<=v/\v<=(ρ 0).i+100;omega
end
section
variable{aae:eE}{tb:iP}{f:R}
end
def KT(s:jo):Ct:=⟨[],[.sc (.str s)],[],X,[⟨0,.sc (.bool V),[]⟩]⟩
def arB:(λ u y=>rJ.all (λ s=>kp u y 0 0 118 (KT s)))=λ _ _=>true:=aH
def aJz:(λ u y=>rJ.all (λ s=>kp u y 0 0 87 (KT s)))=λ _ _=>true:=aH
def nbG:(λ u y=>kp u y 2 0 214 NJ)=λ _ _=>true:=aH
def nbE:(λ u y=>kp u y 0 0 214 Mz)=λ _ _=>true:=aH
def ns0:(λ u y=>kp u y 0 0 267 If)=λ _ _=>true:=aH
def ns1:(λ u y=>kp u y 0 0 267 JD)=λ _ _=>true:=aH
section
variable{TN TE:aP}{gl:bH}{base:fi}
def asT:lf.all (λ p=> !(Nat.beq p.1 0&&p.2.2.2.dec.isSome))=true:=aH
def I8{u f:R}{c:Ct}(K:bset f=W)(h:kp TN TE u 0 f c=V):dA (vω af pol gl bset base) (aC TN TE) f c none:=by
 unfold kp at h;split at h
 .rename_i F hm
  have A:∀y g c,Jo 0 y g lf=O c->False:=λ y g c D=>by
   obtain⟨p,M,_,e2,J⟩:=Uo D;have:=iw.1 asT p M;rcases J with J|⟨J,N⟩
   .omega
   rw[J,e2,N]at this;cases this
  rcases u with _|_|u
  .exact Mo (F:=F) iB (Qx 0 f) (OT 0 f) (Sc 0 f) (λ y g c D=>(A y g c D).elim) hm K h
  .exact Mo (C:=Cu TN TE 0 f) (F:=F) iB (Qx (TN:=TN) (TE:=TE) 0 f) (OT (TN:=TN) (TE:=TE) 0 f) (Sc (TN:=TN) (TE:=TE) 0 f) (λ y g c D=>(A y g c D).elim) hm K h
  exact Mo (C:=Cv TN TE 0 f) (m:=200) (F:=F) iB (Qx (TN:=TN) (TE:=TE) 0 f) (OT (TN:=TN) (TE:=TE) 0 f) (Sc (TN:=TN) (TE:=TE) 0 f) (λ y g c D=>(A y g c D).elim) hm K h
 cases h
def anX{u:eE}{tb:iP}{f:R}{l:qF}(h:∀s∈l,dA u tb f (KT s) none):dA u tb f ⟨[3],[.ss 1],[.str 1 l],none,[⟨0,.sc (.bool V),[]⟩]⟩ none:=by intro ρ h0 K D _;obtain⟨o,y,A,_,_,J,_⟩:=h _ (D _ (cJ.2 Q)) (λ _=>SV.z) Q (λ i F=>by simp[KT]at F) (nofun) (nofun);rw[show(KT _).outs=[⟨0,.sc _,[]⟩]from Q,cJ]at y;subst y;exact⟨_,cJ.2 Q,jr ρ 2 [],nC,λ x hx=>nF x hx,λ S=>J S,nofun⟩
def ajA:dA (vω af pol gl bset base) (aC TN TE) 118 PM none:=anX λ s u=>I8 Q (iw.1 (wV (wV arB TN) TE) s u)
def afL:dA (vω af pol gl bset base) (aC TN TE) 87 Tz none:=anX λ s u=>I8 Q (iw.1 (wV (wV aJz TN) TE) s u)
theorem aqm:dA (vω af pol gl bset base) (aC TN TE) 267 NN none:=by
 intro ρ h0 hn K _;have hz:=z0 h0;have A:cL (aC TN TE) ρ (.sl 1 2 0 25 []):=K _ (by simp[NN]);have Z:(ρ 2).i<=(ρ 0).i+1:=K (.le 2 0 1) (by simp[NN])
 have fin:∀{c:Ct},(c=If\/c=JD)->dA (vω af pol gl bset base) (aC TN TE) 267 c none->(∀f∈c.pre,cL (aC TN TE) (jr ρ 2 []) f)->∀S,vω af pol gl bset base 267 [.sl (ρ 1).l none,.fn 268 []] S=O (.bp [],S,W):=by
  intro c Y P y S;obtain⟨o,D,N,_,_,M,_⟩:=P (jr ρ 2 []) (by exact h0) (λ i hi=>by grind[If,JD]) y (nofun);rcases Y with rfl|rfl
  .rw[show If.outs=[⟨0,.bp [],[]⟩]from rfl,cJ]at D;subst D;exact M S
  rw[show JD.outs=[⟨0,.bp [],[]⟩]from rfl,cJ]at D;subst D;exact M S
 have J:∀S,vω af pol gl bset base 267 [.sl (ρ 1).l none,.fn 268 []] S=O (.bp [],S,W):=by
  by_cases h:(ρ 2).i<1
  .refine fin (.inl rfl) (I8 (u:=0) rfl (wV (wV ns0 TN) TE)) λ f F=>?_
   obtain rfl:=by simpa[If]using F
   exact⟨by show((ρ 1).l.length:U)=(ρ 0).i+0;have:=A.1;omega,A.2⟩
  refine fin (.inr rfl) (I8 (u:=0) rfl (wV (wV ns1 TN) TE)) λ f F=>?_
  obtain rfl:=by simpa[JD]using F
  exact⟨by show((ρ 1).l.length:U)=(ρ 0).i+1;have:=A.1;omega,A.2⟩
 exact⟨_,cJ.2 rfl,jr ρ 3 [],nC,λ x hx=>nF x hx,J,λ f F=>bk⟩
theorem bsG{l:aK}(Y:l.length<=1000)(P:n<=1000)(N:∀v∈l,0<=v/\v<=99):∃(p:U) (f:mi),(0<=p/\p<=l.length/\(f=V->p+1<=l.length))/\∀S,VW gl base 214 [aO l,eI (n:U)] S=O (.bp [eI p,eB f],S,W):=by
 let ρ:bC:=λ x=>if x=1 then⟨0,W,[],l.map (λ n=>[eI n])⟩else if x=2 then⟨n,W,[],[]⟩else if x=3 then⟨l.length,W,[],[]⟩else SV.z
 obtain⟨o,F,y,M,_,K,A⟩:=I8 (TN:=[]) (TE:=[]) (gl:=gl) (base:=base) (u:=2) Q (wV (wV nbG []) []) ρ Q (λ i Z=>by
  grind[NJ]) (λ f J=>by
  simp only[NJ,cg,lr,lQ]at J;rcases J with rfl|rfl|rfl|rfl|rfl
  .exact Cm (z:=l) Q bP λ v D=>by have:=N v D;show(0:U)+0<=v/\v<=(0:U)+99;omega
  .show(0:U)<=(n:U)+0;omega
  .show(n:U)<=0+1000;omega
  .show(0:U)<=(l.length:U)+0;omega
  show(l.length:U)<=0+1000;omega) (λ m lo e=>bk)
 have e0:(y 0).i=0:=by rw[<-M 0 (by decide)];rfl
 have e3:(y 3).i=l.length:=by rw[<-M 3 (by decide)];rfl
 have e:(n:U)=(ρ 2).i+0:=bP;simp only[NJ,cg,lr,lQ]at F;rcases F with rfl|rfl
 .have q1:(y 0).i<=(y 4).i+0:=A (.le 0 4 0) aw;have q2:(y 4).i<=(y 3).i+(-1):=A (.le 4 3 (-1)) aw;refine⟨(y 4).i+0,V,⟨aa,aa,λ _=>aa⟩,λ S=>?_⟩;have:=K S;rw[e];exact this
 have q1:(y 0).i<=(y 4).i+0:=A (.le 0 4 0) aw;have q2:(y 4).i<=(y 3).i+0:=A (.le 4 3 0) aw;refine⟨(y 4).i+0,W,⟨aa,aa,λ h=>bk⟩,λ S=>?_⟩;have:=K S;rw[e];exact this
theorem bsE{k:R}(N:k<=1000)(M:n<k):∀S,VW gl base 214 [aO (bI k),eI (n:U)] S=O (.bp [eI (n:U),eB V],S,W):=by
 let ρ:bC:=λ x=>if x=1 then⟨0,W,[],(bI k).map (λ n=>[eI n])⟩else if x=2 then⟨n,W,[],[]⟩else if x=3 then⟨k,W,[],[]⟩else SV.z
 obtain⟨o,A,y,F,_,K,J⟩:=I8 (TN:=[]) (TE:=[]) (gl:=gl) (base:=base) (u:=0) Q (wV (wV nbE []) []) ρ Q (λ i P=>by
  grind[Mz]) (λ f D=>by
  simp only[Mz,cg,lr,lQ]at D;rcases D with rfl|rfl|rfl|rfl|rfl
  .refine⟨by grind[bI,HY],λ i e Y=>?_⟩;grind[bI,wj,HY,ads]
  .show(0:U)<=(n:U)+0;omega
  .show(n:U)<=0+1000;omega
  .show(0:U)<=(k:U)+0;omega
  show(k:U)<=0+1000;omega) (λ m lo e=>bk)
 have e2:(y 2).i=n:=by rw[<-F 2 (by decide)];rfl
 have e3:(y 3).i=k:=by rw[<-F 3 (by decide)];rfl
 simp only[Mz,cg,lr,lQ]at A;intro S;have h:=K S;rcases A with rfl|rfl
 .have h2:vω af pol gl bset base 214 [.sl _ X,.sc _] S=O (.bp [.sc (.int .i64 ((y 2).i+0)),eB V],S,W):=h;grind
 exfalso;have q:(y 3).i<=(y 2).i+0:=J (.le 3 2 0) aw;omega
theorem ayJ:dA (vω af pol gl bset base) (aC TN TE) 234 FK none:=by
 intro ρ h0 hn M _;have hz:=z0 h0;obtain⟨l,hl,ae,ad⟩:=Er (TN:=TN) (TE:=TE) (M (.sl 2 3 0 0 [(0,0),(1,(-1))]) (by simp[FK]));have p1:(ρ 3).i<=(ρ 1).i+0:=M (.le 3 1 0) (by simp[FK]);have p2:(ρ 1).i<=(ρ 0).i+100:=M (.le 1 0 100) (by simp[FK]);obtain⟨m,hm⟩:∃m:R,(ρ 1).i=m:=⟨(ρ 1).i.toNat,aa⟩;have hv:∀v∈l,0<=v/\v<=99:=λ v h=>KC
 have u:∀i:R,i<m->∃(p:Int) (f:mi),(0<=p/\p<=l.length/\(f=V->p+1<=l.length))/\∀S,VW gl base 214 [aO l,eI (i:Int)] S=O (.bp [eI p,eB f],S,W):=λ i y=>bsG aa aa hv
 let g:R->Int:=λ i=>if h:i<m then(if(u i h).choose_spec.choose then(u i h).choose else-1)else-1
 have hg:∀i,i<m->∃(p:Int) (f:mi),(∀S,VW gl base 214 [aO l,eI (i:Int)] S=O (.bp [eI p,eB f],S,W))/\g i=if f then p else-1:=λ i y=>⟨(u i y).choose,(u i y).choose_spec.choose,(u i y).choose_spec.choose_spec.2,bP⟩
 have P:∀i,i<m-> -1<=g i/\g i+1<=m:=λ i y=>by grind[choose]
 have J:((vv m).map g).length=m:=aw;refine⟨_,cJ.2 Q,jr ρ 4 [⟨0,W,[],((vv m).map g).map (λ n=>[eI n])⟩],nC,λ x hx=>nF x hx,λ S=>?_,λ f Y=>?_⟩;.show VW gl base 234 [.sc (.int .i64 ((ρ 1).i+0)),.sl (ρ 2).l none] S=O (.sl (((vv m).map g).map (λ n=>[eI n])) none,S,W);grind[aDS]
 simp only[FK,cg,lr,lQ]at Y;rcases Y with rfl|rfl
 .refine Cm (z:=(vv m).map g) Q (by show(((vv m).map g).length:Int)=(ρ 1).i+0;rw[J];omega) λ v D=>?_
  rw[lO]at D;obtain⟨i,y,rfl⟩:=D;have:=P i (Ox.1 y);show(ρ 0).i+ -1<=g i/\g i<=(ρ 0).i+99;grind
 intro F A;have F:(ρ 2).l.length=(((vv m).map g).map (λ n=>[eI n])).length:=F;have A:E9 (ρ 2).l:=A;have ac:l.length=m:=by grind[HY]
 have ab:l=bI m:=by
  apply sI;intro i;by_cases y:i<m;.have h1:l[i]? =O l[i]:=eg aa;have h2:=A i [eI l[i]] bP;grind[bI]
  grind[adl,bI]
 show E9 (((vv m).map g).map (λ n=>[eI n]));intro j e Z;have K:j<m:=by grind[wj]
 have N:g j=j:=by have e1:g j=if(u j K).choose_spec.choose then(u j K).choose else-1:=bP;have h1:=(u j K).choose_spec.choose_spec.2 [];grind[bsE]
 simp[K]at Z;rw[<-Z,N]
end
section
variable{TN TE:aP}{gl:bH}{base:fi}
theorem GW(m:R):(bI m).length=m:=by simp[bI]
theorem aCb{x:U}:x∈bI m↔0<=x/\x<m:=by
 simp only[bI,lO,Ox];constructor;.rintro⟨j,u,rfl⟩;omega
 rintro⟨h1,h2⟩;exact⟨x.toNat,aa,aa⟩
theorem U7:(bI m)[i]? =if i<m then O (i:U)else none:=by grind[bI,List.getElem?_range,adl]
theorem O1{x:R}{c:U}(hx:(ρ x).l=(bI m).map (λ n=>[eI n]))(u:(m:U)=(ρ n).i+c):cL (aC TN TE) ρ (.sl x n c 1 []):=by refine⟨by grind[HY,GW],λ i e y=>?_⟩;grind[U7,ads]
theorem aII:E9 ((bI m).map (λ n=>[eI n])):=λ j e u=>by grind[U7]
theorem Ik(h:p:=by simp[SJ]):p:=h
theorem art:dA (vω af pol gl bset base) (aC TN TE) 291 SJ none:=by
 intro ρ h0 hn y _;have hz:=z0 h0;obtain⟨im,hi,M,K⟩:=Er (TN:=TN) (TE:=TE) (y (.sl 2 4 0 0 [(0,0),(1,(-1))]) Ik);obtain⟨k,hk,J⟩:=Ha (TN:=TN) (TE:=TE) (y (.sl 3 5 0 1 []) Ik);have Z:(ρ 4).i<=(ρ 0).i+8:=y (.le 4 0 8) Ik;have Y:(ρ 5).i<=(ρ 4).i+0:=y (.le 5 4 0) Ik;have P:(ρ 0).i<=(ρ 1).i+0:=y (.le 0 1 0) Ik;have N:(ρ 1).i<=(ρ 0).i+80:=y (.le 1 0 80) Ik;obtain⟨m,hm⟩:∃m:R,(ρ 1).i=m:=⟨(ρ 1).i.toNat,aa⟩;obtain⟨r,r1,r2,r3,r4⟩:=aGk (gl:=gl) (base:=base) (m:=m) aa (im:=im) (kp:=bI k) aa (by rw[GW];omega) (λ x hx=>KC);have u:∀S,vω af pol gl bset base 291 [.sc (.int .i64 ((ρ 1).i+0)),.sl (ρ 2).l none,.sl (ρ 3).l none] S=O (.sl (r.map (λ n=>[eI n])) none,S,W):=λ S=>by grind
 by_cases h:(ρ 4).i<=(ρ 5).i
 .have D:r=bI m:=r3 λ j hj=>by grind[List.any_eq_true,aCb,aAJ]
  refine⟨_,dJ,jr ρ 6 [⟨0,W,[],r.map (λ n=>[eI n])⟩],nC,λ x hx=>nF x hx,u,λ f A=>?_⟩;simp only[cg,lr,lQ]at A;rcases A with rfl|rfl|rfl
  .exact O1 (m:=m) (by rw[<-D];rfl) (by show(m:U)=(ρ 1).i+0;omega)
  .show E9 (r.map (λ n=>[eI n]));rw[D];exact aII
  show(ρ 4).i<=(ρ 5).i+0;omega
 refine⟨_,cV _ (dJ),jr ρ 6 [⟨0,W,[],r.map (λ n=>[eI n])⟩,⟨r.length,W,[],[]⟩],nC,λ x hx=>nF x hx,u,λ f A=>?_⟩;simp only[cg,lr,lQ]at A;rcases A with rfl|rfl|rfl|rfl
 .exact Cm (z:=r) Q (by show(r.length:U)=(r.length:U)+0;omega) λ v F=>by have:=r2 v F;show(ρ 0).i+0<=v/\v<=(ρ 1).i+ -1;omega
 .show(ρ 0).i<=(r.length:U)+0;omega
 .show(r.length:U)<=(ρ 1).i+0;omega
 show(ρ 5).i<=(ρ 4).i+ -1;omega
end
section
variable{TN TE:aP}{gl:bH}{base:fi}
theorem aAP(h:de (aC TN TE) 7 [] j e):∃s p l,e=[.sc (.str s),eI p,eB W,.sl l X]/\ -1<=p/\p<=j- 1:=by
 have D:∃d,(aC TN TE).td 7=O d/\d.cells=[.ss 2,.int .i64 3 0,.sc _,.sl 4 X]/\ik.le 0 3 1∈d.facts/\ik.le 3 1 (-1)∈d.facts/\d.p=0:=⟨_,Q,Q,aw,aw,Q⟩;obtain⟨d,D,K,A,y,N⟩:=D;obtain⟨_,u,h1,h2,M,J⟩:=(iO iB D).1 h;have F:(aX u 0).i<=(aX u 3).i+1:=J _ A;have P:(aX u 3).i<=(aX u 1).i+(-1):=J _ y;rw[fP (λ l=>aX l 0) h1]at F;refine⟨(aX u 2).s,(aX u 3).i+0,(aX u 4).l,by rw[M,K];rfl,?_,?_⟩;.have F:0<=(aX u 3).i+1:=F;omega
 grind[aX]
theorem aFP{x:R}(h:cL (aC TN TE) ρ (.sl x n 0 7 []))(y:(ρ n).i<=6):Ak (ρ x).l/\((ρ x).l.length:U)=(ρ n).i:=by obtain⟨h1,h2⟩:=h;refine⟨⟨aa,λ i u=>?_⟩,aa⟩;obtain⟨s⟩:=aAP (h2 i _ (eg u));grind
theorem amZ{tn:aP}(u:Ak tn):∀{f:R} {a x:U},a<tn.length->x∈mC tn f a->yv tn a x
 |0,a,x,_,h=>by cases h
 |f+1,a,x,A,h=>by
  unfold mC at h;split at h;.cases h
  rcases cg.1 h with rfl|h
  .exact .refl _
  obtain⟨J,p,F,D,e,y⟩:=u.2 a.toNat aa;rw[(show mR tn _=p by unfold mR;rw[e])]at h;exact(aa:a=a.toNat)▸.step e Q (amZ u aa h)
theorem aCw{tn:aP}(y:Ak tn)(h:yv tn a b):∀{f:R},0<=a->a<f->0<=b->b∈mC tn f a:=by
 induction h with
 |refl a=>
  intro f h0 F _;cases f;.omega
  rename_i f;grind[mC,List.mem_cons_self]
 | @step a p b e h1 h2 J N=>
  intro f h0 F S;cases f;.omega
  rename_i f;unfold mC;obtain⟨c0,p',c2,Z,Y,M,K⟩:=y.2 a (wj h1);have A:p'=p:=bP;have P:mR tn (a:U).toNat=p':=by grind[avZ,mR]
  have D:0<=p':=by
   rcases Int.lt_or_le p' 0 with u|u
   .exfalso;cases J with
    |refl=>omega
    |step _ _ _=>omega
   exact u
  grind
def agF(base:fi):Prop:=∀(tn u:aP) (a:R),Ak tn->a<tn.length->base 256 [.agg [.sl tn X,.sl u X],eI (a:U)]=O (aO (mC tn (a+1) a).reverse)
def aAU:ly af 256=true:=aH
theorem aCc(K:agF base){tn u:aP}{a:R}(A:Ak tn)(J:a<tn.length){S:gC}:
 VW gl base 197 [.agg [.sl tn X,.sl u X],eI (a:U),eI b] S=O (eB ((mC tn (a+1) a).reverse.any λ y=>decide (b=y)),S,W):=by
 have D:(mC tn (a+1) a).reverse.length<=1000000:=by rw[List.length_reverse];have:=Zd (tn:=tn) (f:=a+1) (a:=a);have:=A.1;omega
 have F:∀S,VW gl base 256 _ S=O _:=λ S=>sZ Q (K tn u a A J) Q
 refine uY (S':=[]) (w:=W) aI3 Q Q ?_;simp+decide only[jd,ajm,VB,lk,↓reduceIte,ae0,aet,iA aAU,iA G8,F,EX D]
theorem HI(h:p:=by simp[No]):p:=h
theorem aoc(hB:agF base):dA (vω af pol gl bset base) (aC TN TE) 197 No none:=by
 intro ρ h0 hn D _;have Y:=z0 h0;have P:(ρ 5).i<=(ρ 0).i+6:=D (.le 5 0 6) HI;obtain⟨Z,hl⟩:=aFP (TN:=TN) (TE:=TE) (D (.sl 1 5 0 7 []) HI) aa;have K:yj TN TE (ρ 1).l (ρ 2).l:=D (.pr 115 [.s 1,.s 2]) HI;have N:(ρ 0).i<=(ρ 3).i+0:=D (.le 0 3 0) HI;have M:(ρ 3).i<=(ρ 5).i+(-1):=D (.le 3 5 (-1)) HI;have p5:(ρ 0).i<=(ρ 4).i+0:=D (.le 0 4 0) HI;obtain⟨a,ha⟩:∃a:R,(ρ 3).i=a:=⟨(ρ 3).i.toNat,aa⟩;have u:∀S,vω af pol gl bset base 197 [.agg [.sl (ρ 1).l none,.sl (ρ 2).l none],.sc (.int .i64 ((ρ 3).i+0)),.sc (.int .i64 ((ρ 4).i+0))] S=O (eB ((mC (ρ 1).l (a+1) a).reverse.any λ y=>decide ((ρ 4).i+0=y)),S,W):=λ S=>by grind[aCc]
 have A:yv TN ((ρ 3).i+0) ((ρ 4).i+0)↔((mC (ρ 1).l (a+1) a).reverse.any λ y=>decide ((ρ 4).i+0=y))=true:=by rw[Ey,<-K.1];grind[aCw,aAJ,amZ]
 cases F:(mC (ρ 1).l (a+1) a).reverse.any _
 .refine⟨_,cV _ dJ,jr ρ 7 [],nC,λ x hx=>nF x hx,λ S=>by have:=u S;rw[F]at this;exact this,λ f J=>?_⟩;obtain rfl:=by simpa using J
  exact λ h=>by rw[A.1 h]at F;cases F
 refine⟨_,dJ,jr ρ 7 [],nC,λ x hx=>nF x hx,λ S=>by have:=u S;rw[F]at this;exact this,λ f J=>?_⟩;obtain rfl:=by simpa using J
 exact A.2 F
end
section
variable{TN TE:aP}{gl:bH}{base:fi}
theorem aD8:dA (vω af pol gl bset base) (aC TN TE) 317 KE none:=by
 intro ρ h0 J u _;have F:=z0 h0;have D:(ρ 0).i<=(ρ 1).i+0:=u (.le 0 1 0) (by simp[KE]);have A:(ρ 1).i<=(ρ 0).i+100:=u (.le 1 0 _) (by simp[KE]);obtain⟨m⟩:∃m:R,(ρ 1).i=m:=⟨(ρ 1).i.toNat,aa⟩;refine⟨_,cJ.2 rfl,jr ρ 2 [⟨0,W,[],(bI m).map (λ n=>[eI n])⟩],nC,λ x hx=>nF x hx,λ S=>?_,λ f y=>?_⟩;.show VW gl base _ [.sc _] S=O (.sl ((bI m).map _) none,S,W);grind[aqP]
 obtain rfl:=by simpa[KE]using y
 exact O1 rfl (by show m=(ρ 1).i+0;omega)
def YH(base:fi):Prop:=∀z:aK,z.length<=1000->base 144 [aO z]=O (.sl (z.map λ n=>[eI n]) (O 1))
theorem ajj(K:YH base):dA (vω af pol gl bset base) (aC TN TE) 144 IF none:=by
 intro ρ h0 Y D _;have N:=z0 h0;have A:cL _ ρ (.sl 1 2 0 9 []):=D _ (by simp[IF]);have M:(ρ 2).i<=(ρ 0).i+1000:=D (.le 2 0 _) (by simp[IF]);obtain⟨z,y,_⟩:=YK (k:=0) (P:=λ _ _=>True) λ i e J=>by obtain⟨v,e1⟩:=asF (A.2 i e J);exact⟨v,e1,sp⟩
 have u:z.length<=1000:=by have:=A.1;grind
 refine⟨_,cJ.2 Q,jr ρ 3 [],nC,λ x hx=>nF x hx,λ S=>?_,λ f F=>by simp at F⟩;show vω _ pol gl bset base _ [.sl _ none] S=O (.sl _ _,S,W);exact y▸sZ Q (K z u) Q
def EdE(e:be):Prop:=∃a b c:U,e=[eI a,eI b,eI c]
def aAK(h:de (aC TN TE) 21 [] j e):EdE e:=by obtain⟨_,y,h1,h2,u,A⟩:=(iO iB Q).1 h;exact⟨_,_,_,u⟩
def atf(base:fi):Prop:=∀es:aP,es.length<=1000->(∀e∈es,EdE e)->base 258 [.sl es X]=O (.sl es (O 3))
def arH(J:atf base):dA (vω af pol gl bset base) (aC TN TE) 258 LB none:=by intro ρ h0 N y _;have M:=z0 h0;have u:cL _ ρ (.sl 1 2 0 21 []):=y _ (by simp[LB]);have K:(ρ 2).i<=(ρ 0).i+1000:=y (.le 2 0 _) (by simp[LB]);refine⟨_,cJ.2 Q,jr ρ 3 [],nC,λ x hx=>nF x hx,λ S=>?_,λ f D=>by simp at D⟩;exact sZ Q (J _ (by have:=u.1;omega) λ e F=>by obtain⟨i,A⟩:=Cz F;exact aAK (u.2 i e A)) Q
def aHP(base:fi):Prop:=∀z:aK,z.length<=1000->base 251 [aO z]=O (eI ((Lib.compact (qp z)).length:U))
theorem axa:Lib.compact (qp (bI m))=bI m:=by
 have u:qp _=bI m:=aKn (by grind[bI,List.pairwise_lt_range])
 grind[Lib.compact_all,Lib.keeps_lt_one,Lib.keeps_pos,bI,U7,getElem!_def]
theorem ajY(A:aHP base):dA (vω af pol gl bset base) (aC TN TE) 251 IX none:=by intro ρ h0 J u _;have F:=z0 h0;obtain⟨m⟩:=Ha (u (.sl 1 2 0 1 []) (by simp[IX]));have D:(ρ 2).i<=(ρ 0).i+1000:=u (.le 2 0 _) (by simp[IX]);refine⟨_,cJ.2 Q,jr ρ 3 [],nC,λ x hx=>nF x hx,λ S=>?_,λ f y=>by simp at y⟩;show vω _ pol gl bset base _ [.sl _ none] S=O (.sc (.int .i64 ((ρ 2).i+0)),S,W);have h:=sZ (P:=af) (pol:=pol) (gl:=gl) (bset:=bset) (S:=S) Q (A (bI m) (by rw[GW];omega)) Q;grind[axa,GW]
def asN(base:fi):Prop:=∀z:aK,z.length<=1000->∃b,base 338 [aO z]=O (eB b)
def aqp(J:asN base):dA (vω af pol gl bset base) (aC TN TE) 338 Ni none:=by intro ρ h0 N y _;have M:=z0 h0;obtain⟨z,u,A⟩:=Er (y (.sl 1 2 0 0 [(0,(-1)),(0,1000)]) (by simp[Ni]));have K:(ρ 2).i<=(ρ 0).i+1000:=y (.le 2 0 _) (by simp[Ni]);obtain⟨b,F⟩:=J z aa;refine⟨_,cJ.2 Q,jr ρ 3 [⟨0,b,[],[]⟩],nC,λ x hx=>nF x hx,λ S=>?_,λ f D=>by simp at D⟩;show vω _ pol gl bset base _ [.sl _ none] S=O _;exact u▸sZ Q F Q
def aBd(base:fi):Prop:=∀a b c d e f g:aP,base 340 [.agg [.sl a X,.sl b X,.sl [] X,eI 0,.sl [] X],.agg [.sl c X,.sl d X,.sl e X],.agg [.sl f X,.sl g X]]=O (.bp [.sl [] X,eI 0])
def aDm(A:aBd base):dA (vω af pol gl bset base) (aC TN TE) 340 aa9 none:=by intro ρ h0 F D _;refine⟨_,cJ.2 Q,jr ρ 8 [],nC,λ x hx=>nF x hx,λ S=>?_,λ f y=>by simp at y⟩;have u:=z0 h0;show vω _ pol gl bset base _ [.agg [.sl _ none,.sl _ none,.sl [] none,.sc _,.sl [] none],.agg _,.agg _] S=O (.bp [.sl [] none,.sc _],S,W);rw[show(jr ρ 8 [] 0).i=0 from u,u];exact sZ Q (A _ _ _ _ _ _ _) Q
end
section
variable{TN TE:aP}{gl:bH}{base:fi}
def EW(base:fi)(tb:iP)(f:ck)(c:Ct):Prop:=∀ρ:bC,ρ 0=SV.z->SU c.ks ρ->(∀g∈c.pre,cL tb ρ g)->∃o∈c.outs,∃u,dj (c.ks.length+1) ρ u/\(∀x,c.ks.length+1+o.k<=x->u x=SV.z)/\base f (aT ρ c.args)=O (ev u o.res)/\∀g∈o.post,cL tb u g
def Ya{tb:iP}{f:ck}{c:Ct}(J:bset f=V)(D:∀ρ,(aT ρ c.args).any ak.open=W)(h:EW base tb f c):dA (vω af pol gl bset base) tb f c none:=by intro ρ h0 F A _;obtain⟨o,y,u,P,N,M,K⟩:=h ρ h0 F A;exact⟨o,y,u,P,N,λ S=>sZ J M (D ρ),K⟩
def aG9(h:EW base (aC TN TE) 168 zU):dA (vω af pol gl bset base) (aC TN TE) 168 zU none:=Ya Q (λ _=>rfl) h
def awG(h:EW base (aC TN TE) 241 nu):dA (vω af pol gl bset base) (aC TN TE) 241 nu none:=Ya Q (λ _=>rfl) h
def avy(h:EW base (aC TN TE) 88 FO):dA (vω af pol gl bset base) (aC TN TE) 88 FO none:=Ya Q (λ _=>rfl) h
def aAC(base:fi):Prop:=∀m:R,m<=8->base 155 [aO (bI m),aO (bI m)]=O (.bp [aO (bI m),aO (bI m)])
def avQ(J:aAC base):dA (vω af pol gl bset base) (aC TN TE) 155 GJ none:=by
 intro ρ h0 N u _;have M:=z0 h0;obtain⟨m,hm,D⟩:=Ha (TN:=TN) (TE:=TE) (u (.sl 1 3 0 1 []) (by simp[GJ]));obtain⟨m',y,A⟩:=Ha (TN:=TN) (TE:=TE) (u (.sl 2 3 0 1 []) (by simp[GJ]));have K:(ρ 3).i<=(ρ 0).i+8:=u (.le 3 0 8) (by simp[GJ]);obtain rfl:m=m':=aa;refine⟨_,cJ.2 Q,jr ρ 4 [⟨0,W,[],(bI m).map (λ n=>[eI n])⟩,⟨0,W,[],(bI m).map (λ n=>[eI n])⟩],nC,λ x hx=>nF x hx,λ S=>?_,λ f F=>?_⟩;.show vω af pol gl bset base 155 [.sl (ρ 1).l none,.sl (ρ 2).l none] S=O (.bp [.sl ((bI m).map (λ n=>[eI n])) none,.sl ((bI m).map (λ n=>[eI n])) none],S,W);rw[hm,y];exact sZ Q (J m aa) Q
 have:f=.sl 4 3 0 1 []\/f=.sl 5 3 0 1 []:=by simpa[GJ]using F
 rcases this with rfl|rfl
 .exact O1 (m:=m) Q (by show(m:U)=(ρ 3).i+0;omega)
 exact O1 (m:=m) Q (by show(m:U)=(ρ 3).i+0;omega)
end
section
variable{TN TE:aP}{gl:bH}{base:fi}
def aiV(h:de (aC TN TE) 25 [] j e):∃(a b d:U) (c:mi),(2<=a/\a<=9)/\e=[eI a,eI b,eB c,eI d]:=by
 obtain⟨_,u,h1,h2,A,y⟩:=(iO iB (nm:=25) (d:=⟨6,0,[.int .i64 2 0,.int .i64 3 0,.bs 4,.int .i64 5 0],[.le 0 2 (-2),.le 2 0 9]⟩) Q).1 h;have D:(aX u 0).i=0:=by rw[h1];rfl
 have q1:(aX u 0).i<=(aX u 2).i+(-2):=y (.le 0 2 (-2)) aw;have q2:(aX u 2).i<=(aX u 0).i+9:=y (.le 2 0 9) aw;refine⟨(aX u 2).i+0,(aX u 3).i+0,(aX u 5).i+0,(aX u 4).b,⟨aa,aa⟩,A⟩
theorem asj{d:U}{c:mi}(h:2<=a/\a<=9):de (aC TN TE) 25 [] j [eI a,eI b,eB c,eI d]:=by
 refine(iO iB (nm:=25) (d:=⟨6,0,[.int .i64 2 0,.int .i64 3 0,.bs 4,.int .i64 5 0],[.le 0 2 (-2),.le 2 0 9]⟩) Q).2 ⟨Q,[SV.z,⟨j,W,[],[]⟩,⟨a,W,[],[]⟩,⟨b,W,[],[]⟩,⟨0,c,[],[]⟩,⟨d,W,[],[]⟩],Q,aZ _,?_,λ f u=>?_⟩;.show _=[ak.sc (.int .i64 (a+0)),.sc (.int .i64 (b+0)),.sc (.bool c),.sc (.int .i64 (d+0))];grind
 have:f=.le 0 2 (-2)\/f=.le 2 0 9:=by simpa using u
 rcases this with rfl|rfl
 .show(0:U)<=a+(-2);omega
 show a<=(0:U)+9;omega
def aJV(base:fi):Prop:=∀x y:aP,x.length<=1->y.length<=1->(∀e∈x++y,∃(a b d:U) (c:mi),(2<=a/\a<=9)/\e=[eI a,eI b,eB c,eI d])->base 149 [.sl [[.sl x X],[.sl y X]] X]=O (.sl (x++y) X)
theorem aBb(N:aJV base):dA (vω af pol gl bset base) (aC TN TE) 149 Eo none:=by
 intro ρ h0 hn y _;have K:=z0 h0;have J:cL (aC TN TE) ρ (.sl 1 3 0 25 []):=y _ (by simp[Eo]);have F:cL (aC TN TE) ρ (.sl 2 4 0 25 []):=y _ (by simp[Eo]);have Y:(ρ 3).i<=(ρ 0).i+1:=y (.le 3 0 1) (by simp[Eo]);have P:(ρ 4).i<=(ρ 0).i+1:=y (.le 4 0 1) (by simp[Eo]);have l1:((ρ 1).l.length:U)=(ρ 3).i+0:=J.1;have Z:((ρ 2).l.length:U)=(ρ 4).i+0:=F.1
 have u:∀e∈(ρ 1).l++(ρ 2).l,∃(a b d:U) (c:mi),(2<=a/\a<=9)/\e=[eI a,eI b,eB c,eI d]:=λ e D=>by
  rcases wa.1 D with h|h
  .obtain⟨i,A⟩:=Cz h;exact aiV (J.2 i e A)
  obtain⟨i,A⟩:=Cz h;exact aiV (F.2 i e A)
 refine⟨_,cJ.2 Q,jr ρ 5 [⟨0,W,[],(ρ 1).l++(ρ 2).l⟩,⟨(((ρ 1).l++(ρ 2).l).length:R),W,[],[]⟩],nC,λ x hx=>nF x hx,λ S=>?_,λ f M=>?_⟩;.show vω af pol gl bset base 149 [.sl [[.sl (ρ 1).l none],[.sl (ρ 2).l none]] none] S=O (.sl ((ρ 1).l++(ρ 2).l) none,S,W);exact sZ Q (N _ _ aa aa u) Q
 have:f=.sl 5 6 0 25 []\/f=.le 0 6 0\/f=.le 6 0 2:=by simpa[Eo]using M
 rcases this with rfl|rfl|rfl
 .refine⟨by show(((ρ 1).l++(ρ 2).l).length:U)=((((ρ 1).l++(ρ 2).l).length:R):U)+0;omega,λ i e D=>?_⟩;have hm:e∈(ρ 1).l++(ρ 2).l:=iD D;grind[asj]
 .show(ρ 0).i<=((((ρ 1).l++(ρ 2).l).length:R):U)+0;rw[K];omega
 show((((ρ 1).l++(ρ 2).l).length:R):U)<=(ρ 0).i+2;rw[K,kQ];omega
end
section
variable{TN TE:aP}{gl:bH}{base:fi}
theorem aqC{b:mi}:de (aC TN TE) 18 [] j [eB b]:=(iO iB (nm:=18) (d:=⟨3,0,[.bs 2],[]⟩) Q).2 ⟨Q,[SV.z,⟨j,W,[],[]⟩,⟨0,b,[],[]⟩],Q,aZ _,Q,λ f u=>bk⟩
theorem aBz{n:U}{r:iu}(h:(r.length:U)=n+0):de (aC TN TE) 19 [n] j (we r):=by
 refine(iO iB (nm:=19) (d:=⟨4,1,[.sl 3 X],[.sl 3 1 0 18 []]⟩) Q).2 ⟨Q,[SV.z,⟨n,W,[],[]⟩,⟨j,W,[],[]⟩,⟨0,W,[],r.map λ b=>[eB b]⟩],Q,aZ _,Q,λ f y=>?_⟩;obtain rfl:f=.sl 3 1 0 18 []:=by simpa using y
 refine⟨by show((r.map λ b=>[eB b]).length:U)=n+0;rw[br];exact h,λ i e u=>?_⟩;have u:(r.map λ b=>[eB b])[i]? =O e:=u;grind[aqC]
def avM(ρ:bC)(a:U):bC:=λ k=>match k with|1=>ρ 1|2=>ρ 2|3=>⟨a,W,[],[]⟩|4=>ρ 3|5=>ρ 4|_=>SV.z
theorem Fm(h:p:=by simp[HZ]):p:=h
theorem alk(hc:dA (vω af pol gl bset base) (aC TN TE) 134 KB none):dA (vω af pol gl bset base) (aC TN TE) 299 HZ none:=by
 intro ρ h0 N y _;have hz:=z0 h0;have K:cL (aC TN TE) ρ (.sl 1 3 0 7 []):=y _ Fm;have p2:cL (aC TN TE) ρ (.sl 2 4 0 8 [(3,0)]):=y _ Fm;have p3:cL (aC TN TE) ρ (.le 0 3 (-1)):=y _ Fm;have J:cL (aC TN TE) ρ (.le 3 0 6):=y _ Fm;have p5:cL (aC TN TE) ρ (.le 0 4 0):=y _ Fm;have p6:cL (aC TN TE) ρ (.le 4 0 5):=y _ Fm;have Z:cL (aC TN TE) ρ (.pr 115 [.s 1,.s 2]):=y _ Fm;have l1:((ρ 1).l.length:U)=(ρ 3).i+0:=K.1;have l4:(ρ 3).i<=(ρ 0).i+6:=J
 have hB:∀a:R,a<(ρ 1).l.length->∃z:aK,z.length<=1000/\(∀v∈z,0<=v/\v<(ρ 1).l.length)/\∀S,VW gl base 134 [.agg [.sl (ρ 1).l none,.sl (ρ 2).l none],eI (a:U)] S=O (.bp [aO z,eI 0],S,W):=λ a ha=>by
  obtain⟨o,ho,u,h1,h2,Y,P⟩:=hc (avM ρ a) rfl (λ i F=>by
   rcases i with _|_|_|_|_|i
   .cases F
   .cases F
   .rfl
   .exact N 2 rfl
   .exact N 3 rfl
   .cases F) (λ f D=>by
   simp only[KB,cg,lr,lQ]at D;rcases D with rfl|rfl|rfl|rfl|rfl|rfl|rfl|rfl|rfl
   .exact K
   .exact p2
   .show(SV.z).i<=_;rw[<-h0];exact p3
   .show _<=(SV.z).i+6;rw[<-h0];exact J
   .show(SV.z).i<=_;rw[<-h0];exact p5
   .show _<=(SV.z).i+5;rw[<-h0];exact p6
   .exact Z
   .show(0:U)<=(a:U)+0;omega
   show(a:U)<=(ρ 3).i+ -1;omega) nofun
  obtain rfl:=cJ.1 ho;obtain⟨z,z1,z2,z3⟩:=Er (TN:=TN) (TE:=TE) (P (.sl 6 7 0 0 [(0,0),(4,(-1))]) aw);have q1:(u 7).i<=(u 4).i+0:=P (.le 7 4 0) aw;have q2:(u 0).i=0:=by rw[<-h1 0 (by decide)];rfl
  have q3:(u 4).i=(ρ 3).i:=by rw[<-h1 4 (by decide)];rfl
  refine⟨z,aa,λ v hv=>?_,λ S=>?_⟩;.grind[cM]
  have Y:VW gl base 134 [.agg [.sl (ρ 1).l none,.sl (ρ 2).l none],.sc (.int .i64 ((a:U)+0))] S=O (.bp [.sl (u 6).l none,.sc (.int .i64 ((u 0).i+0))],S,W):=Y S;grind
 obtain⟨rows,r1,r2,r3⟩:=aFv (E:=(ρ 2).l) (aa:(ρ 1).l.length<=1000) hB;refine⟨_,cJ.2 rfl,jr ρ 5 [⟨0,W,[],rows.map we⟩],nC,λ x hx=>nF x hx,r3,λ f D=>?_⟩;obtain rfl:f=.sl 5 3 0 19 [(3,0)]:=by simpa[HZ]using D
 refine⟨by show((rows.map we).length:U)=(ρ 3).i+0;rw[br];omega,λ i e A=>?_⟩;have A:(rows.map we)[i]? =O e:=A;rw[mu]at A;cases M:rows[i]?;.rw[M]at A;cases A
 rename_i r;rw[M]at A;cases A;exact aBz (n:=(ρ 3).i+0) (by grind[aqO])
end
section
variable{TN TE:aP}{gl:bH}{base:fi}
def aIQ(h:de (aC TN TE) 26 [] j e):∃v,e=[eI v]/\0<=v/\v<=99:=by
 obtain⟨_,u,h1,h2,A,y⟩:=(iO iB Q).1 h;have D:(aX u 0).i=0:=by rw[h1];rfl
 have q1:(aX u 0).i<=(aX u 2).i+0:=y (.le 0 2 0) aw;have q2:(aX u 2).i<=(aX u 0).i+99:=y (.le 2 0 99) aw;exact⟨(aX u 2).i+0,A,aa,aa⟩
def aqh{fh:U}(h:de (aC TN TE) 27 [fh] j e):∃t a b,e=[eI t,eI a,eI b]/\(0<=t/\t<=99)/\(0<=a/\a<=fh)/\0<=b/\b<=fh:=by
 obtain⟨_,u,h1,h2,A,y⟩:=(iO iB Q).1 h;have M:(aX u 0).i=0:=by rw[h1];rfl
 have e1:(aX u 1).i=fh:=by rw[h1];rfl
 have q1:(aX u 0).i<=(aX u 3).i+0:=y (.le 0 3 0) aw;have q2:(aX u 3).i<=(aX u 0).i+99:=y (.le 3 0 99) aw;have K:(aX u 0).i<=(aX u 4).i+0:=y (.le 0 4 0) aw;have J:(aX u 4).i<=(aX u 1).i+0:=y (.le 4 1 0) aw;have F:(aX u 0).i<=(aX u 5).i+0:=y (.le 0 5 0) aw;have D:(aX u 5).i<=(aX u 1).i+0:=y (.le 5 1 0) aw;exact⟨(aX u 3).i+0,(aX u 4).i+0,(aX u 5).i+0,A,⟨aa,aa⟩,⟨aa,aa⟩,aa,aa⟩
theorem uj{u:Type}{c:u->be}{P:u->Prop}:∀{l:aP},(∀(i:R) e,l[i]? =O e->∃v,e=c v/\P v)->∃z:B u,l=z.map c/\∀v∈z,P v
 |[],_=>⟨[],Q,nofun⟩
 |x::l,h=>by
  obtain⟨v,rfl,h1⟩:=h 0 x Q;obtain⟨z,rfl,D⟩:=uj λ i e y=>h (i+1) e y
  refine⟨v::z,Q,λ w A=>?_⟩;grind
theorem IC{u:bC}{x y n2 t:R}{c:U}{a A:rL}(h:cL (aC TN TE) ρ (.sl x n c t a))(hx:(ρ x).l=(u y).l)(D:(ρ n).i=(u n2).i)(J:a.map (cM ρ)=A.map (cM u)):cL (aC TN TE) u (.sl y n2 c t A):=by obtain⟨h1⟩:=h;refine⟨by rw[<-hx,<-D];exact h1,λ i e F=>?_⟩;grind
def apj{x:R}{c:U}(h:cL (aC TN TE) ρ (.sl x n c 26 [])):∃z:aK,(ρ x).l=z.map (λ n=>[eI n])/\(z.length:U)=(ρ n).i+c/\∀v∈z,0<=v/\v<=99:=by
 obtain⟨z,h1,h2⟩:=uj (c:=λ n=>[eI n]) (P:=λ v=>0<=v/\v<=99) λ i e u=>by obtain⟨v,e1,e2,e3⟩:=aIQ (h.2 i e u);exact⟨v,e1,e2,e3⟩
 exact⟨z,h1,by rw[<-h.1,h1,br],h2⟩
def ank{x:R}{c:U}(h:cL (aC TN TE) ρ (.sl x n c 27 [(m,d)])):∃z:vm,(ρ x).l=z.map Ed.c/\(z.length:U)=(ρ n).i+c/\∀e∈z,(0<=e.ty/\e.ty<=99)/\(0<=e.fr/\e.fr<=(ρ m).i+d)/\0<=e.to/\e.to<=(ρ m).i+d:=by
 obtain⟨z,h1,h2⟩:=uj (c:=Ed.c) (P:=λ e=>(0<=e.ty/\e.ty<=99)/\(0<=e.fr/\e.fr<=(ρ m).i+d)/\0<=e.to/\e.to<=(ρ m).i+d) λ i e u=>by obtain⟨t,a,b,e1,e2,e3,e4⟩:=aqh (h.2 i e u);exact⟨⟨t,a,b⟩,e1,e2,e3,e4⟩
 exact⟨z,h1,by rw[<-h.1,h1,br],h2⟩
def ahG(ρ:bC)(u ed:aK):bC:=λ k=>match k with|1=>ρ 1|2=>ρ 2|3=>ρ 3|4=>ρ 4|5=>⟨0,W,[],u.map λ n=>[eI n]⟩|6=>⟨0,W,[],ed.map λ n=>[eI n]⟩|7=>ρ 5|8=>ρ 6|9=>ρ 7|10=>ρ 8|_=>SV.z
def qB(a b:SV):bC:=λ k=>match k with|1=>a|2=>b|3=>⟨a.l.length,W,[],[]⟩|4=>⟨b.l.length,W,[],[]⟩|_=>SV.z
theorem aoU(M:dA (vω af pol gl bset base) (aC TN TE) 71 LY X){zN:aK}{zE:vm}(h1:∀v∈zN,0<=v/\v<=99)(h2:∀e∈zE,(0<=e.ty/\e.ty<=99)/\(0<=e.fr/\e.fr<zN.length)/\0<=e.to/\e.to<zN.length)(l1:zN.length<=40)(P:zE.length<=80):
 ∀S,VW gl base 71 [.agg [aO zN,gS zE]] S=O (eI 0,S,W):=by
 obtain⟨o,K,F,N,Z,A,Y⟩:=M (qB ⟨0,W,[],zN.map λ n=>[eI n]⟩ ⟨0,W,[],zE.map Ed.c⟩) rfl (λ i y=>by
  rcases i with _|_|_|_|i
  .cases y
  .cases y
  .rfl
  .rfl
  .cases y) (λ f D=>by
  simp only[LY,cg,lr,lQ]at D;rcases D with rfl|rfl|rfl|rfl|rfl|rfl
  .exact Cm (z:=zN) rfl (by show(zN.length:U)=((zN.map λ n=>[eI n]).length:R)+0;rw[br];omega) λ v J=>by have:=h1 v J;show(0:U)+0<=v/\v<=0+99;omega
  .refine⟨by show((zE.map Ed.c).length:U)=((zE.map Ed.c).length:R)+0;omega,λ i e u=>?_⟩;have u:(zE.map Ed.c)[i]? =O e:=u;rw[mu]at u;cases hx:zE[i]?;.rw[hx]at u;cases u
   rename_i x;rw[hx]at u;cases u;show de (aC TN TE) 12 [(0:U)+99,0+0,((zN.map λ n=>[eI n]).length:R)+ -1] i [.sc _,.sc _,.sc (.int .i64 x.to)];grind[aos]
  .show(0:U)<=((zN.map λ n=>[eI n]).length:R)+0;omega
  .show(((zN.map λ n=>[eI n]).length:R):U)<=0+40;rw[br];omega
  .show(0:U)<=((zE.map Ed.c).length:R)+0;omega
  show(((zE.map Ed.c).length:R):U)<=0+80;rw[br];omega) nofun
 obtain rfl:=cJ.1 K;intro S;have A:VW gl base 71 [.agg [aO zN,gS zE]] S=O (.sc _,S,W):=A S;rw[A,<-N 0 cB];rfl
theorem xt(h:p:=by simp[Lj]):p:=h
theorem as1(hg:dA (vω af pol gl bset base) (aC TN TE) 200 Qi none)(Y:dA (vω af pol gl bset base) (aC TN TE) 71 LY none)(hB:YH base):dA (vω af pol gl bset base) (aC TN TE) 39 Lj none:=by
 intro ρ h0 hn y _;have hz:=z0 h0;have p1:cL (aC TN TE) ρ (.sl 1 5 0 26 []):=y _ xt;have p2:cL (aC TN TE) ρ (.sl 2 6 0 27 [(5,(-1))]):=y _ xt;have p3:cL (aC TN TE) ρ (.sl 3 7 0 26 []):=y _ xt;have p4:cL (aC TN TE) ρ (.sl 4 8 0 27 [(7,(-1))]):=y _ xt;have b1:(ρ 0).i<=(ρ 5).i+0:=y (.le 0 5 0) xt;have b2:(ρ 5).i<=(ρ 0).i+8:=y (.le 5 0 8) xt;have b3:(ρ 0).i<=(ρ 6).i+0:=y (.le 0 6 0) xt;have b4:(ρ 6).i<=(ρ 0).i+8:=y (.le 6 0 8) xt;have b5:(ρ 0).i<=(ρ 7).i+0:=y (.le 0 7 0) xt;have b6:(ρ 7).i<=(ρ 0).i+8:=y (.le 7 0 8) xt;have b7:(ρ 0).i<=(ρ 8).i+0:=y (.le 0 8 0) xt;have b8:(ρ 8).i<=(ρ 0).i+8:=y (.le 8 0 8) xt;obtain⟨aN,an,am,ae⟩:=apj p1;obtain⟨aE,aq,ap,ao⟩:=ank p2;obtain⟨bN,ai,ah,ad⟩:=apj p3;obtain⟨bE,al,ak,aj⟩:=ank p4
 have ex:∀z:aK×aK,∃g:R->aP,(z.1.length=bN.length->z.2.length=bE.length->nO aN.length z.1->nO aE.length z.2->
  (∀S,VW gl base 200 [.agg [aO aN,gS aE],.agg [aO bN,gS bE],aO z.1,aO z.2] S=O (.agg [.sl (g 0) none,.sl (g 1) none,.sl (g 2) none,.sl (g 3) none,.sl (g 4) none,.sl (g 5) none],S,W))/\
  ∀j,de (aC TN TE) 28 [(ρ 5).i,(ρ 6).i,(ρ 7).i,(ρ 8).i] j [.sl (g 0) none,.sl (g 1) none,.sl (g 2) none,.sl (g 3) none,.sl (g 4) none,.sl (g 5) none]):=λ z=>by
  obtain⟨nd,ed⟩:=z;by_cases hc:nd.length=bN.length/\ed.length=bE.length/\nO aN.length nd/\nO aE.length ed
  case neg=>exact⟨λ _=>[],λ c1 c2 N M=>absurd ⟨c1,c2,N,M⟩ hc⟩
  obtain⟨c1,c2,N,M⟩:=hc
  obtain⟨o,ho,u,a1,a2,a3,A⟩:=hg (ahG ρ nd ed) rfl (λ i J=>by
   rcases i with _|_|_|_|_|_|_|_|_|_|i
   .cases J
   .cases J
   .cases J
   .cases J
   .cases J
   .cases J
   .exact hn 4 rfl
   .exact hn 5 rfl
   .exact hn 6 rfl
   .exact hn 7 rfl
   .cases J) (λ f F=>by
   simp only[Qi,cg,lr,lQ]at F;have ag:(ahG ρ nd ed 0).i=(ρ 0).i:=hz.symm;rcases F with rfl|rfl|rfl|rfl|rfl|rfl|rfl|rfl|rfl|rfl|rfl|rfl|rfl|rfl
   .exact p1
   .exact p2
   .show(0:U)<=(ρ 5).i+0;omega
   .show(ρ 5).i<=(0:U)+8;omega
   .show(0:U)<=(ρ 6).i+0;omega
   .show(ρ 6).i<=(0:U)+8;omega
   .exact p3
   .exact p4
   .show(0:U)<=(ρ 7).i+0;omega
   .show(ρ 7).i<=(0:U)+8;omega
   .show(0:U)<=(ρ 8).i+0;omega
   .show(ρ 8).i<=(0:U)+8;omega
   .exact Cm (z:=nd) rfl (by show(nd.length:U)=(ρ 7).i+0;omega) λ v Y=>by have:=N v Y;show(0:U)+ -1<=v/\v<=(ρ 5).i+ -1;omega
   exact Cm (z:=ed) rfl (by show(ed.length:U)=(ρ 8).i+0;omega) λ v Y=>by have:=M v Y;show(0:U)+ -1<=v/\v<=(ρ 6).i+ -1;omega) nofun
  obtain rfl:=cJ.1 ho;refine⟨λ i=>(u (11+i)).l,λ _ _ _ _=>⟨λ S=>?_,λ j=>?_⟩⟩;.have a3:VW gl base 200 [.agg [.sl (ρ 1).l none,.sl (ρ 2).l none],.agg [.sl (ρ 3).l none,.sl (ρ 4).l none],aO nd,aO ed] S=O (.agg [.sl (u 11).l none,.sl (u 12).l none,.sl (u 13).l none,.sl (u 14).l none,.sl (u 15).l none,.sl (u 16).l none],S,W):=a3 S;grind
  .have e0:(u 0).i=0:=by rw[<-a1 0 (by decide)];rfl
   have e7:(u 7).i=(ρ 5).i:=by rw[<-a1 7 (by decide)];rfl
   have e8:(u 8).i=(ρ 6).i:=by rw[<-a1 8 (by decide)];rfl
   have e9:(u 9).i=(ρ 7).i:=by rw[<-a1 9 (by decide)];rfl
   have ac:(u 10).i=(ρ 8).i:=by rw[<-a1 10 (by decide)];rfl
   have k1:(u 0).i<=(u 17).i+0:=A (.le 0 17 0) aw;have k2:(u 17).i<=(u 0).i+16:=A (.le 17 0 16) aw;have k3:(u 0).i<=(u 18).i+0:=A (.le 0 18 0) aw;have k4:(u 18).i<=(u 0).i+16:=A (.le 18 0 16) aw;refine(iO iB (nm:=28) rfl).2 ⟨rfl,[SV.z,⟨(ρ 5).i,W,[],[]⟩,⟨(ρ 6).i,W,[],[]⟩,⟨(ρ 7).i,W,[],[]⟩,⟨(ρ 8).i,W,[],[]⟩,⟨j,W,[],[]⟩,u 11,u 12,u 13,u 14,u 15,u 16,u 17,u 18],rfl,aZ _,rfl,λ f F=>?_⟩;simp only[cg,lr,lQ]at F;rcases F with rfl|rfl|rfl|rfl|rfl|rfl|rfl|rfl|rfl|rfl
   .exact IC (A (.sl 11 17 0 26 []) aw) rfl rfl rfl
   .exact IC (A (.sl 12 18 0 27 [(17,(-1))]) aw) rfl rfl rfl
   .show(0:U)<=(u 17).i+0;omega
   .show(u 17).i<=(0:U)+16;omega
   .show(0:U)<=(u 18).i+0;omega
   .show(u 18).i<=(0:U)+16;omega
   .exact IC (A (.sl 13 7 0 0 [(0,0),(17,(-1))]) aw) rfl e7 (by show[(u 0).i+0,(u 17).i+ -1]=[(0:U)+0,(u 17).i+ -1];rw[e0])
   .exact IC (A (.sl 14 8 0 0 [(0,0),(18,(-1))]) aw) rfl e8 (by show[(u 0).i+0,(u 18).i+ -1]=[(0:U)+0,(u 18).i+ -1];rw[e0])
   .exact IC (A (.sl 15 9 0 0 [(0,0),(17,(-1))]) aw) rfl e9 (by show[(u 0).i+0,(u 17).i+ -1]=[(0:U)+0,(u 17).i+ -1];rw[e0])
   exact IC (A (.sl 16 10 0 0 [(0,0),(18,(-1))]) aw) rfl ac (by show[(u 0).i+0,(u 18).i+ -1]=[(0:U)+0,(u 18).i+ -1];rw[e0])
 obtain⟨G,hG⟩:=apP ex
 let D:Ov:=⟨aN,aE,bN,bE,λ i nd ed=>G (nd,ed) i⟩
 have K:Ix gl base D:=⟨⟨by show aN.length<=1000;omega,by show aE.length<=1000;omega,by show bN.length<=90;omega,by show bE.length<=90;omega⟩,hB,λ nd ed c1 c2 N M S=>(hG (nd,ed) c1 c2 N M).1 S⟩;obtain⟨r,r1,r2⟩:=Z9 (D:=D) (P:=λ x=>∀j,de (aC TN TE) 28 [(ρ 5).i,(ρ 6).i,(ρ 7).i,(ρ 8).i] j x) (λ nd ed c1 c2 N M=>(hG (nd,ed) c1 c2 N M).2) (λ e Z=>by grind) (by show bE.length<100;omega) 100 (nd:=[]) (o:=[]) (by show bN.length<100+0;omega) (kG _) (λ x hx=>bk) ⟨kG _,λ x hx=>bk⟩;have va:=aoU (gl:=gl) (base:=base) (zN:=aN) (zE:=aE) Y ae (λ e Z=>bP) aa aa;have vb:=aoU (gl:=gl) (base:=base) (zN:=bN) (zE:=bE) Y ad (λ e Z=>bP) aa aa;have hw:=λ S=>w39 K (S:=S) bP bP va vb r1 (by have:=r2.len;omega)
 have ab:∀S,VW gl base 39 [.agg [.sl (ρ 1).l none,.sl (ρ 2).l none],.agg [.sl (ρ 3).l none,.sl (ρ 4).l none]] S=O (if 2000<r.length then .bp [.sl [] none,eI 3]else .bp [.sl r none,eI 0],S,W):=λ S=>by grind
 by_cases hc:2000<r.length;.refine⟨_,cV _ (cJ.2 rfl),jr ρ 9 [],nC,λ x hx=>nF x hx,λ S=>?_,λ f F=>bk⟩;show VW gl base 39 [.agg [.sl (ρ 1).l none,.sl (ρ 2).l none],.agg [.sl (ρ 3).l none,.sl (ρ 4).l none]] S=O (.bp [.sl [] none,.sc (.int .i64 ((jr ρ 9 [] 0).i+3))],S,W);grind[jr]
 refine⟨_,dJ,jr ρ 9 [⟨0,W,[],r⟩,⟨(r.length:R),W,[],[]⟩],nC,λ x hx=>nF x hx,λ S=>?_,λ f F=>?_⟩;.show VW gl base 39 [.agg [.sl (ρ 1).l none,.sl (ρ 2).l none],.agg [.sl (ρ 3).l none,.sl (ρ 4).l none]] S=O (.bp [.sl r none,.sc (.int .i64 ((jr ρ 9 [⟨0,W,[],r⟩,⟨(r.length:R),W,[],[]⟩] 0).i+0))],S,W);grind[jr]
 have:f=.sl 9 10 0 28 [(5,0),(6,0),(7,0),(8,0)]\/f=.le 0 10 0\/f=.le 10 0 2000:=by simpa[Lj]using F
 rcases this with rfl|rfl|rfl
 .refine⟨by show(r.length:U)=((r.length:R):U)+0;omega,λ i e Z=>?_⟩;have Z:r[i]? =O e:=Z;show de (aC TN TE) 28 [(ρ 5).i+0,(ρ 6).i+0,(ρ 7).i+0,(ρ 8).i+0] i e;rw[fJ,fJ,fJ,fJ];exact r2.all e (iD Z) i
 .show(ρ 0).i<=((r.length:R):U)+0;omega
 show((r.length:R):U)<=(ρ 0).i+2000;omega
end
section
variable{TN TE:aP}
def d6:ym:=⟨7,0,[.ss 2,.int .i64 3 0,.int .i64 4 0,.sl 5 X],[.str 2 rJ,.le 0 3 3,.le 3 0 0,.le 0 4 0,.le 4 0 20,.le 3 4 0,.sl 5 6 0 5 [],.le 0 6 0,.le 6 0 2,.pr 111 [.i 3 0,.i 4 0,.i 6 0]]⟩
def d20:ym:=⟨7,0,[.ss 2,.int .i64 3 0,.int .i64 4 0,.sl 5 X],[.le 0 3 3,.le 3 0 0,.le 0 4 0,.le 4 0 20,.sl 5 6 0 5 [],.le 0 6 0,.le 6 0 2]⟩
def L2:ym:=⟨7,0,[.ss 2,.int .i64 3 0,.int .i64 4 0,.sl 5 X],[.str 2 rJ,.le 0 3 3,.le 3 0 0,.le 0 4 0,.le 4 0 20,.sl 5 6 0 5 [],.le 0 6 0,.le 6 0 2]⟩
def td6:(aC TN TE).td 6=O d6:=rfl
def aqX:(aC TN TE).td 20=O d20:=rfl
def ayp:(aC TN TE).td 30=O L2:=rfl
theorem ayR{a b c:SV}{k:R}(u:k≠1):aX (a::b::l) k=aX (a::c::l) k:=by grind[aX]
theorem ajt{A:U}(h:de (aC TN TE) 6 [] j e):de (aC TN TE) 20 [] A e/\de (aC TN TE) 30 [] A e:=by
 obtain⟨_,u,h1,h2,M,K⟩:=(iO iB td6).1 h;have h1:u=SV.z::⟨j,W,[],[]⟩::u.drop 2:=h1;generalize N:u.drop 2=r at h1;have y:∀k,k≠1->aX u k=aX (SV.z::⟨A,W,[],[]⟩::r) k:=λ k y=>h1▸ayR y
 have J:(SV.z::⟨A,W,[],[]⟩::r).length<=7:=by have:u.length<=7:=h2;grind
 have e3:e=aT (aX (SV.z::⟨A,W,[],[]⟩::r)) [.ss 2,.int .i64 3 0,.int .i64 4 0,.sl 5 X]:=by rw[M];show aT (aX u) [.ss 2,.int .i64 3 0,.int .i64 4 0,.sl 5 X]=_;grind[aT,ev]
 have f:∀f∈L2.facts,cL _ _ f:=λ f F=>by
  have D:f∈d6.facts:=by simp only[L2,d6,cg,lQ]at F⊢;grind
  have:=K f D;simp only[L2,cg,lr,lQ]at F;rcases F with rfl|rfl|rfl|rfl|rfl|rfl|rfl|rfl<;>simpa only[cL,KN,y 0 cB,y 2 cB,y 3 cB,y 4 cB,y 5 cB,y 6 cB]using this
 refine⟨(iO iB aqX).2 ⟨Q,_,?_,J,e3,λ g P=>f g ?_⟩,(iO iB ayp).2 ⟨Q,_,?_,J,e3,f⟩⟩;.rfl
 .grind[d20,L2]
 rfl
def aCu{l:aP}(h:∀(i:R) e,l[i]? =O e->de (aC TN TE) 5 [] i e):∃z:qF,l=z.map λ t=>[.sc (.str t)]:=by
 obtain⟨z,h1,_⟩:=uj (c:=λ t=>[ak.sc _]) (P:=λ _=>True) λ i e y=>by obtain⟨_,u,h1,h2,A,D⟩:=(iO iB Q).1 (h i e y);exact⟨(aX u 2).s,A,sp⟩
 exact⟨z,h1⟩
theorem aoX(h:de (aC TN TE) 6 [] j e):∃a:wh,e=wC a/\a.2.2.2.length<=2:=by
 obtain⟨_,u,h1,h2,F,y⟩:=(iO iB td6).1 h;have M:(aX u 0).i=0:=by rw[h1];rfl
 have A:cL _ _ (.sl 5 6 0 5 []):=y _ (by simp[d6]);have K:(aX u 6).i<=(aX u 0).i+2:=y (.le 6 0 2) (by simp[d6]);obtain⟨z,D⟩:=aCu A.2;have J:=A.1;refine⟨((aX u 2).s,(aX u 3).i+0,(aX u 4).i+0,z),?_,?_⟩;.rw[F];show[ak.sc _,.sc _,.sc _,.sl _ X]=_;rw[D];rfl
 grind
def aF9{l:aP}(h:∀e∈l,∃j,de (aC TN TE) 6 [] j e):∃z:B wh,l=z.map wC/\∀a∈z,a.2.2.2.length<=2:=uj λ i e y=>by obtain⟨j,u⟩:=h e (iD y);exact aoX u
def Gd(TN TE:aP)(tn:aP):Prop:=tn.length<=6/\∀i,i<tn.length->∃s p l,tn[i]? =O [.sc (.str s),eI p,eB W,.sl l X]/\ -1<=p/\p<i/\l.length<=1/\∀e∈l,∃j,de (aC TN TE) 6 [] j e
def afW{x:R}(h:cL (aC TN TE) ρ (.sl x n 0 7 []))(P:(ρ n).i<=6):Gd TN TE (ρ x).l:=by
 obtain⟨h1,h2⟩:=h;refine⟨aa,λ i D=>?_⟩;obtain⟨_,u,A,N,J,y⟩:=(iO iB Q).1 (h2 i _ (eg D));have e0:(aX u 0).i=0:=by rw[A];rfl
 have e1:(aX u 1).i=i:=by rw[A];rfl
 have f1:(aX u 0).i<=(aX u 3).i+1:=y (.le 0 3 1) aw;have Z:(aX u 3).i<=(aX u 1).i+(-1):=y (.le 3 1 _) aw;have F:cL _ _ (.sl 4 5 0 6 []):=y _ aw;have Y:(aX u 5).i<=(aX u 0).i+1:=y (.le 5 0 1) aw;have S:=F.1;refine⟨(aX u 2).s,(aX u 3).i+0,(aX u 4).l,by rw[eg D,J];rfl,aa,aa,aa,λ e M=>?_⟩;obtain⟨k,K⟩:=Cz M;exact⟨_,F.2 k e K⟩
def Gd.ok{tn:aP}(h:Gd TN TE tn):sO tn:=by refine⟨by have:=h.1;omega,λ i F=>?_⟩;obtain⟨s,p,l,e,y,u,J,A⟩:=h.2 i F;refine⟨_,p,_,l,e,y,u,aa,iw.2 λ x hx=>?_⟩;obtain⟨j,D⟩:=A x hx;obtain⟨a,rfl,_⟩:=aoX D;rfl
theorem Gd.tn{tn:aP}(h:Gd TN TE tn):Ak tn:=by refine⟨by have:=h.1;omega,λ i u=>?_⟩;obtain⟨s⟩:=h.2 i u;grind
theorem Gd.mem{tn:aP}(h:Gd TN TE tn):∀{f:R} {a:U},a<tn.length->(dP tn f a).length<=f/\∀e∈dP tn f a,∃j,de (aC TN TE) 6 [] j e
 |0,a,_=>⟨aZ _,nofun⟩
 |f+1,a,D=>by
  unfold dP;split;.grind
  obtain⟨s,p,l,e,y⟩:=h.2 _ (aa:a.toNat<tn.length);have A:mR tn a.toNat=p:=by rw[mR,e]
  have u:zS tn a.toNat=l:=by rw[zS,e]
  obtain⟨q1⟩:=h.mem (f:=f) (a:=p) aa;grind
end
section
variable{TN TE:aP}
def anz:QL TN TE js pI:=by refine⟨ajA,afL,ajY λ z u=>EI (.MM Q u),ajj λ z u=>EI (.clone Q u),aoc λ tn D a y A=>EI (.line y A)⟩
def aAq:(25,O 168,196,Pw)∈lf:=iD (i:=6) Q
def aIv:(30,O 299,134,KB)∈lf:=iD (i:=8) Q
theorem b42:EW ml (aC TN TE) 168 zU:=by
 intro ρ h0 Z A;have S:=z0 h0;have p1:(ρ 4).i<=(ρ 0).i+6:=A (.le 4 0 6) (by simp[zU]);have p3:(ρ 0).i<=(ρ 3).i+0:=A (.le 0 3 0) (by simp[zU]);have p4:(ρ 3).i<=(ρ 4).i+(-1):=A (.le 3 4 (-1)) (by simp[zU]);have N:cL (aC TN TE) ρ (.sl 1 4 0 7 []):=A _ (by simp[zU]);have u:=afW N aa;have P:=N.1;obtain⟨a,ha⟩:∃a:R,(ρ 3).i=a:=⟨(ρ 3).i.toNat,aa⟩;have K:a<(ρ 1).l.length:=aa;obtain⟨q1,q2⟩:=u.mem (f:=a+1) (a:=(a:U)) aa;obtain⟨ac,J,D⟩:=aF9 q2
 have F:VW js pI 196 [.agg [.sl (ρ 1).l X,.sl (ρ 2).l X],aO [(a:U)]] []=O (eI 0,[],W):=by
  obtain⟨o,Y,y,a1,a2,a3,a4⟩:=ajv (TN:=TN) (TE:=TE) (gl:=js) anz _ aAq cB ρ h0 Z A (λ m lo e=>bk);obtain rfl:=cJ.1 Y;have ab:ρ 0=y 0:=a1 0 cB;have e:aT ρ Pw.args=[.agg [.sl (ρ 1).l X,.sl (ρ 2).l X],aO [(a:U)]]:=by show[ak.agg [.sl (ρ 1).l X,.sl (ρ 2).l X],.sl [[.sc (.int .i64 ((ρ 3).i+0))]] X]=_;rw[ha,fJ];rfl
  have h3:VW js pI 196 (aT ρ Pw.args) []=O (ak.sc (.int .i64 ((y 0).i+0)),[],W):=a3 [];grind
 have hb:=Nh (.attrs (te:=(ρ 2).l) u.ok (λ i hi=>by have:=(u.mem (f:=i+1) (a:=(i:U)) (by omega)).1;have:=u.1;omega) K F J (λ x hx=>by have:=D x hx;omega));refine⟨_,cJ.2 rfl,jr ρ 6 [⟨0,W,[],dP (ρ 1).l (a+1) a⟩,⟨(dP (ρ 1).l (a+1) a).length,W,[],[]⟩],nC,λ x hx=>nF x hx,?_,λ f hf=>?_⟩;.show ml 168 [.agg [.sl (ρ 1).l X,.sl (ρ 2).l X],.sc (.int .i64 ((ρ 3).i+0))]=O (.bp [.sl (dP (ρ 1).l (a+1) a) X,.sc (.int .i64 ((ρ 0).i+0))]);grind
 have M:(jr ρ 6 [⟨0,W,[],dP (ρ 1).l (a+1) a⟩,⟨(dP (ρ 1).l (a+1) a).length,W,[],[]⟩] 0).i=0:=S;have:f=.sl 6 7 0 20 []\/f=.le 0 7 0\/f=.le 7 0 6:=by simpa[zU]using hf
 rcases this with rfl|rfl|rfl
 .refine⟨by show((dP (ρ 1).l (a+1) a).length:U)=((dP (ρ 1).l (a+1) a).length:U)+0;omega,λ i e he=>?_⟩;obtain⟨j,hj⟩:=q2 e (iD he);exact(ajt hj).1
 .show _<=((dP (ρ 1).l (a+1) a).length:U)+0;rw[M];omega
 show((dP (ρ 1).l (a+1) a).length:U)<=_+6;grind
theorem Iw(h:p:=by simp[FO]):p:=h
theorem aum:EW ml (aC TN TE) 88 FO:=by
 intro ρ h0 hn y;have N:=z0 h0;have p1:(ρ 4).i<=(ρ 0).i+6:=y (.le 4 0 6) Iw;have p3:(ρ 0).i<=(ρ 3).i+0:=y (.le 0 3 0) Iw;have p4:(ρ 3).i<=(ρ 4).i+(-1):=y (.le 3 4 (-1)) Iw;have F:cL (aC TN TE) ρ (.sl 1 4 0 7 []):=y _ Iw;have pe:cL (aC TN TE) ρ (.el 1 3 0 [.ss 6,.int .i64 7 0,.sc (.bool W),.sl 9 X]):=y _ Iw;have M:cL (aC TN TE) ρ (.sl 9 8 0 6 []):=y _ Iw;have u:=afW F aa;have J:=F.1;obtain⟨a,Z⟩:∃a:R,(ρ 3).i=a:=⟨(ρ 3).i.toNat,aa⟩;have D:a<(ρ 1).l.length:=aa;obtain⟨q1,q2⟩:=u.mem (f:=a+1) (a:=(a:U)) aa;have Y:=Nh (.one (.attrs (te:=(ρ 2).l) u.ok D (by have:=u.1;omega)));have P:((ρ 9).l.length:U)<=(dP (ρ 1).l (a+1) a).length:=by obtain⟨j,K,A⟩:=pe;obtain rfl:j=a:=aa;have A:(ρ 1).l[j]? =O [.sc (.str (ρ 6).s),.sc (.int .i64 ((ρ 7).i+0)),.sc (.bool W),.sl (ρ 9).l X]:=A;grind[zS,dP,avZ,abY]
 have h9:=M.1;refine⟨_,cJ.2 Q,jr ρ 10 [⟨0,W,[],dP (ρ 1).l (a+1) a⟩,⟨(dP (ρ 1).l (a+1) a).length,W,[],[]⟩],nC,λ x hx=>nF x hx,?_,λ f S=>?_⟩;.show ml 88 [.agg [.sl (ρ 1).l X,.sl (ρ 2).l X],.sc (.int .i64 ((ρ 3).i+0))]=O (.sl (dP (ρ 1).l (a+1) a) (O 4));rw[Z,fJ];exact Y
 have ab:(jr ρ 10 [⟨0,W,[],dP (ρ 1).l (a+1) a⟩,⟨(dP (ρ 1).l (a+1) a).length,W,[],[]⟩] 0).i=0:=N;have:f=.sl 10 11 0 30 []\/f=.le 8 11 0\/f=.le 11 0 6:=by simpa[FO]using S
 rcases this with rfl|rfl|rfl
 .refine⟨by show((dP (ρ 1).l (a+1) a).length:U)=((dP (ρ 1).l (a+1) a).length:U)+0;omega,λ i e A=>?_⟩;obtain⟨j,K⟩:=q2 e (iD A);exact(ajt K).2
 .show(ρ 8).i<=((dP (ρ 1).l (a+1) a).length:U)+0;omega
 show((dP (ρ 1).l (a+1) a).length:U)<=_+6;grind
end
section
variable{D:FV}
def EC(n:R)(l:aK):Prop:=∀v∈l,0<=v/\v<n
structure Ge (D:FV) (n:R):Prop where
 p:∀v∈D.pN,0<=v/\v<n
 h:∀v∈D.hN,0<=v/\v<n
 e:∀x∈D.pE,(0<=x.fr/\x.fr<D.pN.length)/\0<=x.to/\x.to<D.pN.length
 q1:D.qN.length=D.pN.length
 q2:D.qE.length=D.pE.length
 b:D.bl.length=n
 r:∀r∈D.bl,r.length=n
 l:D.lim<=100000
theorem ahF(h:Ge D n){j:R}(u:i<D.pE.length)(A:j<D.hE.length)(F:D.pE[i].fr<ns.length)(y:D.pE[i].to<ns.length):∃b,Ae D ns i j=O b:=by
 obtain⟨⟨J⟩⟩:=h.e _ (qP u);unfold Ae;simp only[eg u,eg (h.q2▸u)];split;.exact⟨_,Q⟩
 obtain⟨a⟩:∃a,D.pE[i].fr=gu a:=⟨D.pE[i].fr.toNat,gD⟩;obtain⟨b⟩:∃b,D.pE[i].to=gu b:=⟨D.pE[i].to.toNat,gD⟩;simp_all
def ah4(h:Ge D n)(y:i<D.pE.length)(A:D.pE[i].fr<ns.length)(u:D.pE[i].to<ns.length):∀(k j:R),j+k<=D.hE.length->∃b,AF D ns i k j=O b
 |0,j,_=>⟨W,Q⟩
 |k+1,j,J=>by
  obtain⟨b,F⟩:=ahF h y (j:=j) aa A u;rw[AF,F];cases b;.exact ah4 h y A u k _ aa
  exact⟨V,Q⟩
def WO(h:Ge D n){ns:aK}:∀(k i:R),i+k<=D.pE.length->∃b,zo D ns k i=O b
 |0,i,_=>⟨V,Q⟩
 |k+1,i,A=>by
  have u:i<D.pE.length:=aa;simp only[zo,eg u];split;.exact WO h k _ aa
  obtain⟨b,y⟩:=ah4 h (ns:=ns) u aa aa D.hE.length 0 aa;rw[y];cases b;.exact⟨W,Q⟩
  exact WO h k _ aa
def aut(h:Ge D n)(y:ns.length<D.pN.length)(F:i<D.hN.length):∃b,Bk D ns i=O b:=by
 obtain⟨M,A⟩:=h.p _ (qP y);obtain⟨h0,h1⟩:=h.h _ (qP F);unfold Bk;simp only[eg y,eg (h.q1▸y),eg F];split;.exact⟨_,Q⟩
 obtain⟨a,K⟩:∃a,D.pN[ns.length]=gu a:=⟨D.pN[ns.length].toNat,gD⟩;obtain⟨b,J⟩:∃b,D.hN[i]=gu b:=⟨D.hN[i].toNat,gD⟩;rw[K]at A;rw[J]at h1;have u:a<D.bl.length:=by rw[h.b];simpa using A
 simp only[K,J,eg u,eg (by rw[h.r _ (qP u)];simpa using h1)];split<;>first|exact⟨_,rfl⟩|(rename_i hx;cases hx)
theorem aFp(h:Ge D n){es:aK}(y:ns.length=D.pN.length)(u:es.length<D.pE.length)(A:i<D.hE.length):∃b,EA D ns es i=O b:=by obtain⟨⟨_⟩⟩:=h.e _ (qP u);grind[ahF,EA]
def WY{st:R->jO->Option jO}{P:jO->Prop}(A:∀i o,i<n->P o->∃u,st i o=O u/\P u):∀(k i:R) (o:jO),i+k<=n->P o->∃u,yz st k i o=O u/\P u
 |0,i,o,_,y=>⟨o,Q,y⟩
 |k+1,i,o,D,y=>by obtain⟨u,h1,h2⟩:=A i o aa y;rw[yz,h1];exact WY A k _ u aa h2
structure Elt (D:FV) (x:aK×aK):Prop where
 a:x.1.length=D.pN.length
 b:EC D.hN.length x.1
 c:x.2.length=D.pE.length
 d:EC D.hE.length x.2
def aoK(D:FV)(out:jO):Prop:=(∀x∈out,Elt D x)/\(out.length:U)<=D.lim
theorem EC.push{l:aK}(h:EC n l)(y:i<n):EC n (l++[(i:U)]):=λ v u=>by
 rcases wa.1 u with u|u
 .exact h v u
 grind
theorem acd{n:R}(h:Ge D n):∀(f:R) (ns es:aK) (out:jO),ns.length<=D.pN.length->es.length<=D.pE.length->(D.pN.length-ns.length)+(D.pE.length-es.length)<f->EC D.hN.length ns->EC D.hE.length es->aoK D out->∃u,vP D f ns es out=O u/\aoK D u
 |0,_,_,_,_,_,P,_,_,_=>by omega
 |f+1,ns,es,out,N,S,P,i1,i2,F=>by
  unfold vP;split;.exact⟨out,Q,F⟩
  split
  .rename_i y;refine WY (n:=D.hN.length) (λ i o J A=>?_) _ 0 out aa F;obtain⟨b,K⟩:=aut h y J;rw[C6,K];cases b
   .obtain⟨c,Y⟩:=WO h (ns:=ns++[(i:U)]) D.pE.length 0 aa;rw[Y];cases c;.exact⟨o,Q,A⟩
    exact acd h f _ es o gD S gD (i1.push J) i2 A
   exact⟨o,Q,A⟩
  split
  .rename_i y;refine WY (n:=D.hE.length) (λ i o J A=>?_) _ 0 out aa F;obtain⟨b,K⟩:=aFp h (ns:=ns) aa y J;rw[C0,K];cases b;.exact acd h f ns _ o N gD gD i1 (i2.push J) A
   exact⟨o,Q,A⟩
  have Z:=h.l;have M:=F.2;rw[aY aa];refine⟨_,Q,λ x hx=>?_,?_⟩
  .rcases wa.1 hx with hx|hx
   .exact F.1 x hx
   rw[cJ]at hx;subst hx;exact⟨by show ns.length=_;omega,i1,by show es.length=_;omega,i2⟩
  grind[abY,List.length_singleton]
end
section
variable{n:U}
variable{TN TE:aP}
def Q9(h:de (aC TN TE) 10 [n] j e):∃v:U,e=[eI v]/\0<=v/\v<n:=by
 obtain⟨_,u,h1,h2,A,y⟩:=(iO iB Q).1 h;have J:(aX u 0).i=0:=by rw[h1];rfl
 have e1:(aX u 1).i=n:=by rw[h1];rfl
 have F:(aX u 0).i<=(aX u 3).i+0:=y (.le 0 3 0) aw;have D:(aX u 3).i<=(aX u 1).i+(-1):=y (.le 3 1 _) aw;exact⟨(aX u 3).i+0,A,aa,aa⟩
theorem XD{m:U}(h:de (aC TN TE) 12 [m,0,n] j e):∃x:Ed,e=x.c/\(0<=x.fr/\x.fr<=n)/\0<=x.to/\x.to<=n:=by
 obtain⟨_,u,h1,h2,A,y⟩:=(iO iB Q).1 h;have e2:(aX u 2).i=0:=by rw[h1];rfl
 have e3:(aX u 3).i=n:=by rw[h1];rfl
 have K:(aX u 2).i<=(aX u 6).i+0:=y (.le 2 6 0) aw;have J:(aX u 6).i<=(aX u 3).i+0:=y (.le 6 3 0) aw;have F:(aX u 2).i<=(aX u 7).i+0:=y (.le 2 7 0) aw;have D:(aX u 7).i<=(aX u 3).i+0:=y (.le 7 3 0) aw;exact⟨⟨(aX u 5).i+0,(aX u 6).i+0,(aX u 7).i+0⟩,A,⟨bP,by grind[aX]⟩,by grind[aX],by grind[aX]⟩
def aAG(h:de (aC TN TE) 19 [n] j e):∃r:iu,e=[xS r]/\(r.length:U)=n:=by
 obtain⟨_,y,h1,h2,K,J⟩:=(iO iB Q).1 h;have e1:(aX y 1).i=n:=by rw[h1];rfl
 have D:cL _ _ (.sl 3 1 0 18 []):=J _ aw;obtain⟨r,A,_⟩:=uj (c:=λ b=>[eB b]) (P:=λ _=>True) λ i e F=>by obtain⟨_,u,Z,Y,M,S⟩:=(iO iB Q).1 (D.2 i e F);exact⟨(aX u 2).b,M,sp⟩
 have N:=D.1;rw[A,br]at N;refine⟨r,?_,aa⟩;rw[K];show[ak.sl _ X]=_;rw[A]
def IK(ρ:bC):bC:=λ k=>match k with|1=>ρ 1|2=>ρ 2|3=>ρ 11|4=>ρ 12|_=>SV.z
theorem abb{v:U}(h1:a<=v)(h2:v<=b):de (aC TN TE) 0 [a,b] j [eI v]:=by
 refine(iO iB Q).2 ⟨Q,[SV.z,⟨a,W,[],[]⟩,⟨b,W,[],[]⟩,⟨j,W,[],[]⟩,⟨v,W,[],[]⟩],Q,aZ _,?_,λ f u=>?_⟩;.show[eI v]=[ak.sc (.int .i64 (v+0))];rw[fJ]
 rcases by simpa using u with rfl|rfl
 .show a<=v+0;omega
 show v<=b+0;omega
theorem aBD{c:U}{x:aK×aK}(h1:(x.1.length:U)=a)(h2:∀v∈x.1,0<=v/\v<c)(D:(x.2.length:U)=b)(A:∀v∈x.2,0<=v/\v<d):de (aC TN TE) 23 [a,b,c,d] j (tf x):=by
 refine(iO iB (nm:=23) Q).2 ⟨Q,[SV.z,⟨a,W,[],[]⟩,⟨b,W,[],[]⟩,⟨c,W,[],[]⟩,⟨d,W,[],[]⟩,⟨j,W,[],[]⟩,⟨0,W,[],x.1.map _⟩,⟨0,W,[],x.2.map _⟩],Q,aZ _,Q,λ f y=>?_⟩;rcases by simpa using y with rfl|rfl
 .refine⟨by show((x.1.map _).length:U)=a+0;rw[br];omega,λ i e u=>?_⟩;have u:(x.1.map _)[i]? =O e:=u;rw[mu]at u;cases hx:x.1[i]?;.rw[hx]at u;cases u
  rename_i v;rw[hx]at u;cases u;show de (aC TN TE) 0 [0+0,c+ -1] i [eI v];grind[abb]
 refine⟨by show((x.2.map λ n=>[eI n]).length:U)=b+0;rw[br];omega,λ i e u=>?_⟩;have u:(x.2.map λ n=>[eI n])[i]? =O e:=u;rw[mu]at u;cases hx:x.2[i]?;.rw[hx]at u;cases u
 rename_i v;rw[hx]at u;cases u;show de (aC TN TE) 0 [0+0,d+ -1] i [eI v];grind[abb]
theorem b68:EW ml (aC TN TE) 241 nu:=by
 intro ρ h0 hn y;have hz:=z0 h0;have S:(ρ 11).i<=(ρ 0).i+6:=y (.le 11 0 6) (by simp[nu]);have J:(ρ 0).i<=(ρ 11).i+(-1):=y (.le 0 11 (-1)) (by simp[nu]);have al:(ρ 13).i<=(ρ 0).i+8:=y (.le 13 0 8) (by simp[nu]);have ak:(ρ 14).i<=(ρ 0).i+8:=y (.le 14 0 8) (by simp[nu]);have aj:(ρ 15).i<=(ρ 0).i+40:=y (.le 15 0 40) (by simp[nu]);have ai:(ρ 16).i<=(ρ 0).i+80:=y (.le 16 0 80) (by simp[nu]);have am:(ρ 10).i<=(ρ 0).i+100000:=y (.le 10 0 100000) (by simp[nu]);have ah:(ρ 0).i<=(ρ 10).i+(-1):=y (.le 0 10 (-1)) (by simp[nu]);have q3:cL (aC TN TE) ρ (.sl 3 13 0 10 [(11,0)]):=y _ (by simp[nu]);have q4:cL (aC TN TE) ρ (.sl 4 14 0 12 [(12,(-1)),(0,0),(13,(-1))]):=y _ (by simp[nu]);have q5:cL (aC TN TE) ρ (.sl 5 15 0 10 [(11,0)]):=y _ (by simp[nu]);have q6:cL (aC TN TE) ρ (.sl 6 16 0 12 [(12,(-1)),(0,0),(15,(-1))]):=y _ (by simp[nu]);have q7:cL (aC TN TE) ρ (.sl 7 13 0 0 [(0,(-1)),(0,1000)]):=y _ (by simp[nu]);have q8:cL (aC TN TE) ρ (.sl 8 14 0 0 [(0,(-1)),(0,1000)]):=y _ (by simp[nu]);obtain⟨n,an⟩:∃n:R,(ρ 11).i=n:=⟨(ρ 11).i.toNat,aa⟩;obtain⟨pN,e3,b3⟩:=uj (c:=λ v:U=>[eI v]) (P:=λ v=>0<=v/\v<n) (l:=(ρ 3).l) λ i e u=>by obtain⟨v,a,b,c⟩:=Q9 (n:=(ρ 11).i+0) (q3.2 i e u);exact⟨v,a,b,aa⟩
 obtain⟨hN,e5,b5⟩:=uj (c:=λ v:U=>[eI v]) (P:=λ v=>0<=v/\v<n) (l:=(ρ 5).l) λ i e u=>by obtain⟨v,a,b,c⟩:=Q9 (n:=(ρ 11).i+0) (q5.2 i e u);exact⟨v,a,b,aa⟩
 have l3:=q3.1;have l5:=q5.1;rw[e3,br]at l3;rw[e5,br]at l5;obtain⟨pE,e4,b4⟩:=uj (c:=Ed.c) (P:=λ x=>(0<=x.fr/\x.fr<pN.length)/\0<=x.to/\x.to<pN.length) (l:=(ρ 4).l) λ i e u=>by have:=q4.2 i e u;grind[aC,cM,XD]
 obtain⟨hE,e6,b6⟩:=uj (c:=Ed.c) (P:=λ _=>True) (l:=(ρ 6).l) λ i e u=>by
  have ao:de (aC TN TE) 12 [(ρ 12).i+(-1),0,(ρ 15).i+(-1)] i e:=by
   have e0:cM ρ (0,0)=0:=by show(ρ 0).i+0=0;omega
   have:=q6.2 i e u;simp only[nA,KN,e0]at this;exact this
  grind[XD]
 obtain⟨qN,e7,_⟩:=uj (c:=λ v:U=>[eI v]) (P:=λ _=>True) (l:=(ρ 7).l) λ i e u=>by obtain⟨v,a,_⟩:=aap (a:=(ρ 0).i+(-1)) (b:=(ρ 0).i+1000) (q7.2 i e u);exact⟨v,a,sp⟩
 obtain⟨qE,e8,_⟩:=uj (c:=λ v:U=>[eI v]) (P:=λ _=>True) (l:=(ρ 8).l) λ i e u=>by obtain⟨v,a,_⟩:=aap (a:=(ρ 0).i+(-1)) (b:=(ρ 0).i+1000) (q8.2 i e u);exact⟨v,a,sp⟩
 have l4:=q4.1;have l6:=q6.1;have l7:=q7.1;have l8:=q8.1;rw[e4,br]at l4;rw[e6,br]at l6;rw[e7,br]at l7;rw[e8,br]at l8
 obtain⟨bl,ab,ad,ac⟩:∃bl:B iu,VW js pI 299 [.agg [.sl (ρ 1).l none,.sl (ρ 2).l none]] []=O (.sl (bl.map λ r=>[xS r]) (O 1),[],W)/\bl.length=n/\∀r∈bl,r.length=n:=by
  have ae:dA (vω af pol js bset pI) (aC TN TE) 134 KB none:=ajv (TN:=TN) (TE:=TE) (gl:=js) anz _ aIv cB
  obtain⟨o,Z,F,a1,a2,a3,a4⟩:=alk ae (IK ρ) rfl (λ i hi=>by
   rcases i with _|_|_|_|i
   .cases hi
   .cases hi
   .exact hn 10 rfl
   .exact hn 11 rfl
   .cases hi) (λ f N=>by
   have A:(IK ρ 0).i=(ρ 0).i:=hz.symm;simp only[HZ,cg,lr,lQ]at N;rcases N with rfl|rfl|rfl|rfl|rfl|rfl|rfl
   .exact y (.sl 1 11 0 7 []) (by simp[nu])
   .exact y (.sl 2 12 0 8 [(11,0)]) (by simp[nu])
   .show(IK ρ 0).i<=_;rw[A];exact J
   .show _<=(IK ρ 0).i+_;rw[A];exact S
   .show(IK ρ 0).i<=_;rw[A];exact y (.le 0 12 0) (by simp[nu])
   .show _<=(IK ρ 0).i+_;rw[A];exact y (.le 12 0 5) (by simp[nu])
   exact y (.pr 115 [.s 1,.s 2]) (by simp[nu])) (λ m lo e=>bk)
  obtain rfl:=cJ.1 Z;have q:cL (aC TN TE) F (.sl 5 3 0 19 [(3,0)]):=a4 _ aw;have ag:F 3=ρ 11:=(a1 3 cB).symm;obtain⟨bl,e,hb⟩:=uj (c:=λ r:iu=>[xS r]) (P:=λ r=>r.length=n) (l:=(F 5).l) λ i e u=>by obtain⟨r,q1,q2⟩:=aAG (n:=(F 3).i+0) (q.2 i e u);grind
  have q1:=q.1;rw[e,br,ag]at q1;refine⟨bl,?_,aa,hb⟩;have h3:VW js pI 299 [.agg [.sl (ρ 1).l none,.sl (ρ 2).l none]] []=O (.sl (F 5).l (O 1),[],W):=a3 [];rw[e]at h3;exact h3
 let D:FV:=⟨pN,pE,hN,hE,bl,qN,qE,(ρ 9).b,(ρ 10).i⟩
 have Y:Ge D n:=⟨b3,b5,b4,bP,bP,ad,ac,by show(ρ 10).i<=100000;omega⟩;obtain⟨out,Z,M⟩:=acd Y (D.pN.length+D.pE.length+1) [] [] [] (kG _) (kG _) aw (λ v K=>bk) (λ v K=>bk) ⟨λ x hx=>bk,bP⟩;have hb:=Nh (.found (tn:=(ρ 1).l) (te:=(ρ 2).l) (D:=D) ⟨⟨by show pN.length<=1000;omega,by show pE.length<=1000;omega,by show hN.length<=1000;omega,by show hE.length<=1000;omega⟩,e3,e4,e5,e6,e7,e8,rfl,rfl,ab,Z⟩);refine⟨_,cJ.2 rfl,jr ρ 17 [⟨0,W,[],out.map tf⟩,⟨out.length,W,[],[]⟩],nC,λ x hx=>nF x hx,?_,λ f N=>?_⟩;.show ml 241 [.agg [.sl (ρ 1).l none,.sl (ρ 2).l none],.agg [.sl (ρ 3).l none,.sl (ρ 4).l none],.agg [.sl (ρ 5).l none,.sl (ρ 6).l none],.agg [.sl (ρ 7).l none,.sl (ρ 8).l none],.sc (.bool (ρ 9).b),.sc (.int .i64 ((ρ 10).i+0))]=O (.sl (out.map tf) none);rw[fJ];exact hb
 have A:(jr ρ 17 [⟨0,W,[],out.map tf⟩,⟨out.length,W,[],[]⟩] 0).i=0:=hz;have:f=.sl 17 18 0 23 [(13,0),(14,0),(15,0),(16,0)]\/f=.le 0 18 0\/f=.le 18 10 0:=by simpa[nu]using N
 rcases this with rfl|rfl|rfl
 .refine⟨by show((out.map tf).length:U)=(out.length:U)+0;rw[br];omega,λ i e u=>?_⟩;have u:(out.map tf)[i]? =O e:=u;rw[mu]at u;cases hx:out[i]?;.rw[hx]at u;cases u
  rename_i x;rw[hx]at u;cases u;have hx:=M.1 x (iD hx);show de (aC TN TE) 23 [(ρ 13).i+0,(ρ 14).i+0,(ρ 15).i+0,(ρ 16).i+0] i (tf x);refine aBD (by rw[hx.a];grind) (λ v K=>?_) (by rw[hx.c];grind) (λ v K=>?_);.have:=hx.b v K;grind
  have:=hx.d v K;grind
 .show _<=(out.length:U)+0;rw[A];omega
 have h2:(out.length:U)<=(ρ 10).i:=M.2;show(out.length:U)<=(ρ 10).i+0;omega
def avr:Px TN TE js ml:=by
 have o:∀{f} {a} {v},pw f a v->ml f a=O v:=λ h=>Nh (.one h)
 have F:YH ml:=λ z u=>o (.clone Q u)
 have D:C7 ml:=λ n h=>o (.jS h)
 refine{h0:=ajA,h1:=afL,RF:=ajY λ z u=>o (.MM Q u),OY:=ajj F,To:=aoc λ tn P a K N=>o (.line K N),h42:=aG9 b42,h50:=alk,h52:=aqp λ z u=>⟨_,o (.TR Q u)⟩,h54:=arH λ es h A=>o (.Ts h λ e hm=>?_),h55:=aDm λ a b c d e f g=>o .solve,h65:=art,h68:=awG b68,h71:=aqE D,h84:=avQ λ m hm=>o (.QR Q Q hm),h86:=ayJ,h87:=axf D,h96:=aCW D,an4:=aqm,ai7:=aBb λ x y h1 h2 h=>o (.concat aa aa (λ e A=>?_) λ e A=>?_),aiJ:=aD8,ahB:=λ M J=>as1 M J F,akC:=avy aum};.obtain⟨a,b,c,rfl⟩:=A e hm;rfl
 .obtain⟨a,b,d,c,_,e⟩:=h e (UH _ A);exact⟨a,b,d,c,e⟩
 obtain⟨a,b,d,c,_,e⟩:=h e (ad7 _ A);exact⟨a,b,d,c,e⟩
def GG:∀p∈lf,dA (vω af pol js bset ml) (aC TN TE) p.2.2.1 p.2.2.2 none:=aua avr
end
end
end Go.Abs
