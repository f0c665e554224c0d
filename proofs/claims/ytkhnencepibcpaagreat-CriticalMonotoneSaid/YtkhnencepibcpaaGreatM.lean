/- All contracts; walks for those by hand. -/
import Derived.Test.YtkhnencepibcpaaGreatF
import Derived.Test.YtkhnencepibcpaaGreatK
import Derived.Test.YtkhnencepibcpaaGreatL
import Derived.Test.YtkhnencepibcpaaGreatL0
import Derived.Test.YtkhnencepibcpaaGreatL1
import Derived.Test.YtkhnencepibcpaaGreatL2
import Derived.Test.YtkhnencepibcpaaGreatL3
import Derived.Test.YtkhnencepibcpaaGreatL4
import Derived.Test.YtkhnencepibcpaaGreatL5
set_option linter.all false
set_option maxRecDepth 100000
open Bool renaming true_eq_false->asS,false->W,true->V
open Nat renaming beq->gr,reduceAdd->et,reduceBEq->eF
open Option renaming none->X,some->O
open _root_ renaming Bool->mi,Int->U,List->B,Nat->R,Option->gw,reduceIte->ky,rfl->Q
namespace Go.Abs
noncomputable section
open Go Go.Proofs
variable{S:gC}{a o:ak}{b:mi}{aae:eE}{cs:be}{es l nd ns:aK}{i j:R}{pl:yg}{α:Type}
section
def ty9:Tryz.prog.underlying 9=O .string:=aH
variable{TN TE:aP}
def arX:Pu af 4 0:=⟨λ _=>aH,λ h=>absurd h (KR 0)⟩
noncomputable def Pd:B Field:=match Tryz.prog.underlying 95 with|O (.struct fs)=>fs.toList|_=>[]
def u95:Tryz.prog.underlying 95=O (.struct ⟨Pd⟩):=aH
def g95:(match Pd with|[a,b,c]=>(match Tryz.prog.underlying a.type,Tryz.prog.underlying b.type,Tryz.prog.underlying c.type with|O (.int _),O (.int _),O (.int _)=>true|_,_,_=>W)|_=>W)=true:=aH
def h95:Tryz.prog.stoodInHeld 95=W/\Tryz.prog.eqGuardType Tryz.prog.depth 95=W/\IG af 0 Pd=true:=⟨aH,aH,aH⟩
def ajS{P:aA}{k:jT}:∀{fs:B Field} {xs ys:aK},(∀f∈fs,∃j,P.underlying f.type=O (.int j))->xs.length=fs.length->ys.length=fs.length->∃b,sh P fs (xs.map λ v=>.int k v) (ys.map λ v=>.int k v)=O b
 |[],[],[],_,_,_=>⟨V,Q⟩
 |f::fs,x::xs,y::ys,h,h1,h2=>by
  obtain⟨j,u⟩:=h f dJ;show∃b,(match P.underlying f.type,decide (k=k)with|O (.int _),V=>(match decide (x=y)with|V=>sh P fs (xs.map λ v=>.int k v) (ys.map λ v=>.int k v)|W=>O W)|_,_=>X)=O b;rw[u,jR Q];simp only;split;.exact ajS (λ g A=>h g (cV _ A)) (by simpa using h1) (by simpa using h2)
  exact⟨W,Q⟩
def air:Pu af 95 3:=by
 refine⟨λ h=>absurd h cB,λ _ xs ys hx A=>?_⟩;have y:=g95;have h0:=h95;have hu:=u95;generalize Pd=fs at*;split at y
 .rename_i a b c;obtain⟨e1,e2,e3⟩:=h0;split at y
  .rename_i N M K q1 q2 F
   have u:∀f∈[a,b,c],∃j,Tryz.prog.underlying f.type=O (.int j):=λ f D=>by
    simp only[cg,lr,lQ]at D;rcases D with rfl|rfl|rfl
    .exact⟨_,q1⟩
    .exact⟨_,q2⟩
    exact⟨_,F⟩
   obtain⟨r,J⟩:=ajS (P:=af) (k:=.i64) u (xs:=xs) (ys:=ys) (by simpa using hx) (by simpa using A);refine⟨r,?_⟩;have b1:gr (xs.map λ v=>au.int .i64 v).length 3=true:=by rw[br,hx];rfl
   have b2:gr (ys.map λ v=>au.int .i64 v).length 3=true:=by rw[br,A];rfl
   unfold nX;rw[hu]
   show(match Tryz.prog.stoodInHeld 95,Tryz.prog.eqGuardType Tryz.prog.depth 95,IG af 0 [a,b,c],gr (xs.map λ v=>au.int .i64 v).length 3,gr (ys.map λ v=>au.int .i64 v).length 3 with
    |false,W,true,true,true=>sh af [a,b,c] _ _
    |_,_,_,_,_=>X)=_
   rw[e1,e2,e3,b1,b2];exact J
  cases y
 cases y
def aED:∀t n,NB V7 t n=V->Pu af t n:=λ t n h=>by
 unfold V7 NB at h;simp only[NB,rP,bq,OE]at h;rcases h with⟨h1,h2⟩|⟨h1,h2⟩
 .rw[<-cI h1,<-cI h2];exact arX
 rw[<-cI h1,<-cI h2];exact air
def Qx(i u:R):zw af (Cx TN TE i u):=⟨λ t h=>by rw[<-show 9=t from(cI h).symm];exact ty9,aED⟩
def acE:∀{l:bG} {g:R},uz l g=V->g∈l
 |[],g,h=>by cases h
 |a::l,g,h=>by
  unfold uz at h;rw[rP]at h;rcases h with h|h
  .rw[cI h];exact dJ
  exact cV _ (acE h)
def axB:Rl.all (λ g=> !bset g)=true:=aH
def OT(i u:R):∀g F,(Cx TN TE i u).fn g=O F->lz af (pol g) g=O F/\bset g=false:=λ g F h=>by
 have h:(match uz Rl g with|true=>lz af (pol g) g|false=>X)=O F:=h;split at h;.rename_i hm;have:=iw.1 axB g (acE hm);exact⟨h,by simpa using this⟩
 cases h
def okA:okL.all (ly af)=true:=aH
def Sc(i u:R):∀g,(Cx TN TE i u).ok g=V->ly af g=V/\(g=237->bset g=V):=λ g h=>⟨iw.1 okA g (acE h),λ e=>by subst e;rfl⟩
variable{gl:bH}{base:fi}
structure Px (TN TE:aP) (gl:bH) (base:fi):Prop where
 h0:dA (vω af pol gl bset base) (aC TN TE) 118 PM none
 h1:dA (vω af pol gl bset base) (aC TN TE) 87 Tz none
 RF:dA (vω af pol gl bset base) (aC TN TE) 251 IX none
 OY:dA (vω af pol gl bset base) (aC TN TE) 144 IF none
 To:dA (vω af pol gl bset base) (aC TN TE) 197 No none
 h42:dA (vω af pol gl bset base) (aC TN TE) 168 zU none
 h50:dA (vω af pol gl bset base) (aC TN TE) 134 KB none->dA (vω af pol gl bset base) (aC TN TE) 299 HZ none
 h52:dA (vω af pol gl bset base) (aC TN TE) 338 Ni none
 h54:dA (vω af pol gl bset base) (aC TN TE) 258 LB none
 h55:dA (vω af pol gl bset base) (aC TN TE) 340 aa9 none
 h65:dA (vω af pol gl bset base) (aC TN TE) 291 SJ none
 h68:dA (vω af pol gl bset base) (aC TN TE) 241 nu none
 h71:dA (vω af pol gl bset base) (aC TN TE) 392 Ef none
 h84:dA (vω af pol gl bset base) (aC TN TE) 155 GJ none
 h86:dA (vω af pol gl bset base) (aC TN TE) 234 FK none
 h87:dA (vω af pol gl bset base) (aC TN TE) 235 Nc none
 h96:dA (vω af pol gl bset base) (aC TN TE) 263 Ek none
 an4:dA (vω af pol gl bset base) (aC TN TE) 267 NN none
 ai7:dA (vω af pol gl bset base) (aC TN TE) 149 Eo none
 aiJ:dA (vω af pol gl bset base) (aC TN TE) 317 KE none
 ahB:dA (vω af pol gl bset base) (aC TN TE) 200 Qi none->dA (vω af pol gl bset base) (aC TN TE) 71 LY none->dA (vω af pol gl bset base) (aC TN TE) 39 Lj none
 akC:dA (vω af pol gl bset base) (aC TN TE) 88 FO none
def chX{u:R}{f:R}{q:bA}{c:Ct}(y:bset f=W)(h:kp TN TE u i f c=V):V3 af gl pol bset base (aC TN TE) lf (i,q,f,c):=by
 unfold kp at h;split at h
 .rename_i F A;refine .inr ⟨cxu TN TE u i f,F,200,?_,?_,?_,?_,?_,A,y,h⟩;.rcases u with _|_|u<;>rfl
  .rcases u with _|_|u<;>rfl
  .rcases u with _|_|u<;>exact Qx (TN:=TN) (TE:=TE) i f
  .rcases u with _|_|u<;>exact OT (TN:=TN) (TE:=TE) i f
  rcases u with _|_|u<;>exact Sc (TN:=TN) (TE:=TE) i f
 cases h
def kqA:∀j,j<28->kq j=kT
 |0,_=>kq0
 |1,_=>kq1
 |2,_=>kq2
 |3,_=>kq3
 |4,_=>kq4
 |5,_=>kq5
 |6,_=>kq6
 |7,_=>kq7
 |8,_=>kq8
 |9,_=>kq9
 |10,_=>azX
 |11,_=>ayC
 |12,_=>az3
 |13,_=>awp
 |14,_=>aqJ
 |15,_=>ax3
 |16,_=>aq7
 |17,_=>asU
 |18,_=>asf
 |19,_=>arF
 |20,_=>aAh
 |21,_=>aEm
 |22,_=>ay2
 |23,_=>aEn
 |24,_=>axJ
 |25,_=>at6
 |26,_=>aJp
 |27,_=>aJU
 |n+28,h=>absurd h aa
def bsA:(lf.filter λ p=> !uz CJ p.1).all (λ p=> !bset p.2.2.1)=true:=aH
def afp:lf.length=168:=aH
def am7{p:vy}(h:p∈lf)(g:uz CJ p.1=W):V3 af gl pol bset base (aC TN TE) lf p:=by
 obtain⟨n,u⟩:=Cz h;have y:n/6<28:=by have:=(pC.1 u).1;rw[afp]at this;omega
 have A:=iw.1 bsA p (He.2 ⟨h,by simp[g]⟩);exact chX (by simpa using A) (iw.1 (wV (wV (kqA _ y) TN) TE) p (aIa u g))
def WK{Qqq:α->Prop}:∀{l:B α},(∀p∈l,Qqq p)->xA Qqq l
 |[],_=>trivial
 |_::_,h=>⟨h _ dJ,WK λ p u=>h p (cV _ u)⟩
def hnA(H:Px TN TE gl base):xA (λ p:vy=>(∀q∈lf,q.1<p.1->dA (vω af pol gl bset base) (aC TN TE) q.2.2.1 q.2.2.2 X)->dA (vω af pol gl bset base) (aC TN TE) p.2.2.1 p.2.2.2 X) (lf.filter λ p=>uz CJ p.1):=⟨
 λ u=>H.h0,
 λ u=>H.h1,
 λ u=>H.RF,
 λ u=>H.OY,
 λ u=>H.To,
 λ u=>H.h42,
 λ u=>H.h50 (u _ (iD (i:=8) Q) cB),
 λ u=>H.h52,
 λ u=>H.h54,
 λ u=>H.h55,
 λ u=>H.h65,
 λ u=>H.h68,
 λ u=>H.h71,
 λ u=>H.h84,
 λ u=>H.h86,
 λ u=>H.h87,
 λ u=>H.h96,
 λ u=>H.an4,
 λ u=>H.ai7,
 λ u=>H.aiJ,
 λ u=>H.ahB (u _ (iD (i:=112) Q) cB) (u _ (iD (i:=20) Q) cB),
 λ u=>H.akC,trivial⟩
def aGc(H:Px TN TE gl base):xA (Ut af gl pol bset base (aC TN TE) lf) lf:=WK λ p u=>by
 cases g:uz CJ p.1;.exact .inr (am7 u g)
 exact .inl ((hnA H).mem p (He.2 ⟨u,g⟩))
structure QL (TN TE:aP) (gl:bH) (base:fi):Prop where
 h0:dA (vω af pol gl bset base) (aC TN TE) 118 PM none
 h1:dA (vω af pol gl bset base) (aC TN TE) 87 Tz none
 RF:dA (vω af pol gl bset base) (aC TN TE) 251 IX none
 OY:dA (vω af pol gl bset base) (aC TN TE) 144 IF none
 To:dA (vω af pol gl bset base) (aC TN TE) 197 No none
def hnL(H:QL TN TE gl base):xA (λ p:vy=>dA (vω af pol gl bset base) (aC TN TE) p.2.2.1 p.2.2.2 X) (lf.filter λ p=>uz CJ p.1&&Nat.blt p.1 42):=⟨H.h0,H.h1,H.RF,H.OY,H.To,trivial⟩
def atK(H:QL TN TE gl base):xA (λ p=>p.1<42->Ut af gl pol bset base (aC TN TE) lf p) lf:=WK λ p u y=>by
 cases g:uz CJ p.1;.exact .inr (am7 u g)
 exact .inl λ _=>(hnL H).mem p (He.2 ⟨u,by rw[g];simpa using y⟩)
def ak9:I0 lf=true:=aH
def ajv(H:QL TN TE gl base):∀p∈lf,p.1<42->dA (vω af pol gl bset base) (aC TN TE) p.2.2.1 p.2.2.2 none:=awY iB ak9 (atK H)
def aua(H:Px TN TE gl base):∀p∈lf,dA (vω af pol gl bset base) (aC TN TE) p.2.2.1 p.2.2.2 none:=atz iB ak9 (aGc H)
end
section
variable{bef:jQ}{d:fV}{l:q9}{ps:xB}{v:ak}
variable{P:aA}{gl:bH}{aae:eE}{T:VT}{st:aG}
def cBl(st:aG):rI->kX
 |O cs=>O ⟨.agg cs,[],st,.pure⟩
 |X=>X
def lG:cBl st (O cs)=O ⟨.agg cs,[],st,.pure⟩:=rfl
def lK{z:be}:bw P gl aae T st d (.bl z pl ps)=oB (ql gl T ps) λ l=>cBl st (oZ pl z (l.map λ p=>(p.1,dg p.2))):=by
 simp only[bw];cases ql gl T ps;.rfl
 rename_i l;simp only[oB];cases oZ pl z (l.map λ p=>(p.1,dg p.2))<;>rfl
def lF{z:be}:oZ pl z []=O z:=rfl
def Qw(pl:yg)(l:q9)(z:be)(v:ak):lY->rI
 |O (off,size)=>(match v.ji,v.cells.length==size,decide (off+size<=z.length)with
  |W,V,V=>oZ pl (eR z off v.cells) l
  |_,_,_=>X)
 |X=>X
def lI{z:be}:oZ pl z ((i,v)::l)=Qw pl l z v pl[i]? :=by
 simp only[oZ,Qw];cases pl[i]?;.rfl
 rename_i p;rfl
def lL{z:be}{off size:R}(h2:v.ji=W)(y:(v.cells.length==size)=V)(u:decide (off+size<=z.length)=V):Qw pl l z v (O (off,size))=oZ pl (eR z off v.cells) l:=by simp only[Qw,h2,y,u]
def ajq{ok:kl}:∀{es:lT} {up:bA},(∀k,k<=es.length->ok k=V)->pG bef j ok es up=V
 |[],up,h=>by simp only[pG,h 0 (aZ _),OC]
 |e::es,up,h=>by have u:=h (es.length+1) aw;simp only[pG,u,OC,Ex];exact ajq λ k y=>h k gD
def lM{m:R}{b:sj}{u:vN}{es:lT}(h1:(bef.getD i []).elem j=true)(h2:FT b es=true)(A:decide (m<=es.length)=true):pG bef j (Dx (O b) m ((i,u)::es)) ((i,u)::es) X=true:=by
 have hm:=jL A;simp only[pG,h1,OC,Bool.true_or,Ex];refine ajq λ k y=>?_
 show lA b m k ((i,u)::es)=true;rw[aEr hm y];exact abd h2
def cBt(st:aG)(src:lC):rI->kX
 |O cs=>O ⟨.agg cs,src,st,.pure⟩
 |X=>X
def aoY{st:aG}{src:lC}:cBt st src (O cs)=O ⟨.agg cs,src,st,.pure⟩:=rfl
def aie{P:aA}{aae:eE}{T:VT}{st:aG}{z:be}:bw P gl aae T st d (.bt z pl ps)=oB (ql gl T ps) λ l=>cBt st (BA ps) (oZ pl z l):=by
 simp only[bw];cases ql gl T ps;.rfl
 rename_i l;simp only[oB];cases oZ pl z l<;>rfl
def aiS:BA []=[]:=rfl
def apo{x:eK}{l:xB}:BA ((i,x)::l)=bU x++BA l:=rfl
end
section
variable{a b:be}{k:R}{o o':aP}{rec:aK->aP->Eg}{β:Type}
variable{gl:bH}{base:fi}
def J8(l:aK)(i:U):Ay:=if 0<=i then l[i.toNat]?else X
theorem ape{i v:U}(h:J8 l i=O v):∃k:R,i=k/\k<l.length/\(l.map λ n=>[eI n])[k]? =O [eI v]:=by grind[J8]
noncomputable def JW(x y:Ed):Bool:=match fU af .eql 95 (.agg x.c) (.agg y.c)with|O (.sc (.bool b))=>b|_=>W
def anM{x y:Ed}:fU af .eql 95 (.agg x.c) (.agg y.c)=O (eB (JW x y)):=by
 obtain⟨b,A⟩:=air.2 cB [x.ty,x.fr,x.to] [y.ty,y.fr,y.to] Q Q
 have h1:fU af .eql 95 (.agg x.c) (.agg y.c)=O (eB b):=by
  have u:nX af 95 (.agg [.int .i64 x.ty,.int .i64 x.fr,.int .i64 x.to]) (.agg [.int .i64 y.ty,.int .i64 y.fr,.int .i64 y.to])=O b:=A;have e1:tg (.agg x.c)=O (.agg [.int .i64 x.ty,.int .i64 x.fr,.int .i64 x.to]):=rfl;have e2:tg (.agg y.c)=O (.agg [.int .i64 y.ty,.int .i64 y.fr,.int .i64 y.to]):=rfl;have e3:cY af .eql 95 (.agg [.int .i64 x.ty,.int .i64 x.fr,.int .i64 x.to]) (.agg [.int .i64 y.ty,.int .i64 y.fr,.int .i64 y.to])=O (.bool b):=by show(match nX af 95 (.agg [.int .i64 x.ty,.int .i64 x.fr,.int .i64 x.to]) (.agg [.int .i64 y.ty,.int .i64 y.fr,.int .i64 y.to])with|O b=>O (au.bool b)|X=>X)=_;rw[u]
  unfold fU;rw[e1,e2];simp only[e3];rfl
 unfold JW;rw[h1]
structure Ov where
 aN:aK
 aE:vm
 bN:aK
 bE:vm
 g:R->aK->aK->aP
def Ov.G(D:Ov)(nd ed:aK):be:=[.sl (D.g 0 nd ed) X,.sl (D.g 1 nd ed) X,.sl (D.g 2 nd ed) X,.sl (D.g 3 nd ed) X,.sl (D.g 4 nd ed) X,.sl (D.g 5 nd ed) X]
def Ov.c(D:Ov)(o:aP)(w:bA):be:=[aO D.aN,gS D.aE,aO D.bN,gS D.bE,.sl o w]
def nO(m:R)(l:aK):Prop:=∀x∈l,-1<=x/\x<m
def Cp(D:Ov)(w:Ed)(ed:aK)(rec:aK->aP->Eg)(p:Ed×R)(o:aP):gw (aP⊕jH):=if JW p.1 w=V/\ed.any (λ y=>decide ((p.2:U)=y))=W then(match rec (ed++[(p.2:U)]) o with|O r=>O (.inl r)|X=>X)else O (.inl o)
def ug(D:Ov):R->aK->aK->aP->Eg
 |0,_,_,_=>X
 |f+1,nd,ed,o=>
  if 2000<o.length then O o
  else if ed.length=D.bE.length then O (o++[D.G nd ed])
  else match D.bE[ed.length]?with
   |X=>X
   |O x=>match J8 nd x.fr,J8 nd x.to with
    |O u,O v=>(match ug D f nd (ed++[-1]) o with
     |O y=>(match uD (Cp D ⟨x.ty,u,v⟩ ed (ug D f nd)) D.aE.zipIdx y with
      |O (.inl r)=>O r
      |_=>X)
     |X=>X)
    |_,_=>X
def BG(D:Ov)(nd:aK)(rec:aK->aP->Eg)(p:U×R)(o:aP):gw (aP⊕jH):=
 match D.bN[nd.length]?with
 |X=>X
 |O y=>if p.1=y/\nd.any (λ y=>decide ((p.2:U)=y))=W then(match rec (nd++[(p.2:U)]) o with|O r=>O (.inl r)|X=>X)else O (.inl o)
def tV(D:Ov):R->aK->aP->Eg
 |0,_,_=>X
 |f+1,nd,o=>
  if 2000<o.length then O o
  else if nd.length=D.bN.length then ug D 100 nd [] o
  else match tV D f (nd++[-1]) o with
   |O u=>(match uD (BG D nd (tV D f)) D.aN.zipIdx u with
    |O (.inl r)=>O r
    |_=>X)
   |X=>X
def IB{f:α->B β->gw (B β⊕jH)}:∀{l:B α} {s r:B β},(∀x s s',f x s=O (.inl s')->s<+:s')->uD f l s=O (.inl r)->s<+:r
 |[],s,r,_,h=>by cases h;exact apU _
 |x::l,s,r,u,h=>by
  rw[uD]at h;split at h<;>try cases h
  rename_i y h1;exact(u _ _ _ h1).trans (IB u h)
theorem VI{D:Ov}{w:Ed}{ed:aK}(u:∀e o r,rec e o=O r->o<+:r){p:Ed×R}(h:Cp D w ed rec p o=O (.inl o')):o<+:o':=by grind[Cp]
def Co{D:Ov}:∀{f:R} {nd ed:aK} {o r:aP},ug D f nd ed o=O r->o<+:r
 |0,_,_,_,_,h=>by cases h
 |f+1,nd,ed,o,r,h=>by
  rw[ug]at h;split at h;.cases h;exact apU _
  split at h;.cases h;exact List.prefix_append _ _
  split at h<;>try cases h
  split at h
  .split at h;.rename_i y h1;split at h<;>cases h;rename_i u h2;exact(Co h1).trans (IB (λ _ _ _ h=>VI (λ _ _ _ h=>Co h) h) h2)
   cases h
  cases h
theorem ZK{D:Ov}(u:∀e o r,rec e o=O r->o<+:r){p:U×R}(h:BG D nd rec p o=O (.inl o')):o<+:o':=by grind[BG]
def Gz{D:Ov}:∀{f:R} {nd:aK} {o r:aP},tV D f nd o=O r->o<+:r
 |0,_,_,_,h=>by cases h
 |f+1,nd,o,r,h=>by
  rw[tV]at h;split at h;.cases h;exact apU _
  split at h;.exact Co h
  split at h;.rename_i y h1;split at h<;>cases h;rename_i u h2;exact(Gz h1).trans (IB (λ _ _ _ h=>ZK (λ _ _ _ h=>Gz h) h) h2)
  cases h
open Classical in
noncomputable def Af{α β:Type}(f:α->B β->gw (B β⊕jH))(s0:B β)(Bqq:R)(x:α)(s:B β):gw (B β⊕jH):=if s0<+:s/\(∀s',f x s=O (.inl s')->s'.length<=Bqq)then f x s else X
def Z6{f:α->B β->gw (B β⊕jH)}{s0:B β}{Bqq:R}:∀{l:B α} {s r:B β},(∀x s s',f x s=O (.inl s')->s<+:s')->s0<+:s->r.length<=Bqq->uD f l s=O (.inl r)->uD (Af f s0 Bqq) l s=O (.inl r)
 |[],s,r,_,_,_,h=>h
 |x::l,s,r,y,h0,A,h=>by
  rw[uD]at h⊢;split at h<;>try cases h
  rename_i D h1;have e:Af f s0 Bqq x s=f x s:=aY ⟨h0,λ s' u=>by rw[h1]at u;cases u;exact fI (IB y h).length_le A⟩
  rw[e,h1];exact Z6 y (h0.trans (y _ _ _ h1)) A h
def kP(S:gC)(p q:R)(D:Ov)(s0 s:aP):gC:=if s0.length<s.length then qm S p q (D.c s (O 6))else S
theorem anm{s0 s:aP}(h:s0<+:s)(u:¬s0.length<s.length):s=s0:=(h.eq_of_length (by have:=h.length_le;omega)).symm
def Zg:∀{F:xH},uu (uu F k a) k b=uu F k b
 |[]=>rfl
 |(i,v)::F=>by
  by_cases h:i=k;.simp[aY h,abj,Zg]
  simp[aR h,abj,Zg]
theorem YP{d:R}:∀{S:gC},qm (qm S d k a) d k b=qm S d k b
 |[]=>rfl
 |F::S=>by
  by_cases h:d=S.length;.simp[qm,aY h,Zg]
  simp[qm,aR h,DV,YP]
variable{D:Ov}{S:gC}{p q:R}{s0 s s':aP}
theorem Qj:(kP S p q D s0 s).length=S.length:=by grind[kP,DV]
theorem TQ(h:s0<+:s)(u:jW S p q=O (D.c s0 (O 6))):jW (kP S p q D s0 s) p q=O (D.c s (O 6)):=by grind[kP,TX,anm]
theorem al1(h:s0<+:s)(u:s<+:s'):kP (kP S p q D s0 s) p q D s s'=kP S p q D s0 s':=by grind[kP,YP,anm]
theorem MN{F:xH}(h:p≠S.length):kP (F::S) p q D s0 s=F::kP S p q D s0 s:=by grind[kP,qm]
theorem ak1(h:s0<+:s)(u:s<+:s'):(decide (s0.length<s.length)||decide (s.length<s'.length))=decide (s0.length<s'.length):=by grind
def anW{s:aP}:kP S p q D s s=S:=aR aa
structure Ix (gl:bH) (base:fi) (D:Ov):Prop where
 n:D.aN.length<=1000/\D.aE.length<=1000/\D.bN.length<=90/\D.bE.length<=90
 cl:∀z:aK,z.length<=1000->base 144 [aO z]=some (.sl (z.map λ n=>[eI n]) (some 1))
 gl:∀nd ed,nd.length=D.bN.length->ed.length=D.bE.length->nO D.aN.length nd->nO D.aE.length ed->∀S,VW gl base 200 [.agg [aO D.aN,gS D.aE],.agg [aO D.bN,gS D.bE],aO nd,aO ed] S=some (.agg (D.G nd ed),S,false)
def aBt:ly af 200=true:=aH
def QC:ly af 144=true:=aH
def Yu:ly af 143=true:=aH
def O2:ly af 72=true:=aH
theorem nO.push{m:R}{x:U}(h:nO m l)(hx: -1<=x/\x<m):nO m (l++[x]):=λ y A=>by
 rcases wa.1 A with u|u
 .exact h y u
 grind
def Rj{st:aG}{x:U}(h:l.length<=10000):qt st 1 (.sl (l.map λ n=>[eI n]) (O 1)) (.sl [[eI x]] (O 1))=O (.sl ((l++[x]).map λ n=>[eI n]) (O 1)):=by rw[JR bP Q];simp
abbrev Cg(S:gC)(p q:R)(D:Ov)(nd ed:aK)(i:R):VT:=[(0,.ptr p q 0),(1,aO nd),(2,aO ed),(7,.ptr S.length 7 0),(78,gS D.aE),(79,eI D.aE.length),(80,eI i)]
abbrev SH(S:gC)(p q:R)(D:Ov)(w:Ed)(s0 s:aP):aG:={w:=decide (s0.length<s.length),cur:=[(7,w.c)],up:=kP S p q D s0 s}
def ovL(K:Ix gl base D)(hh:jW S p q=O (D.c s0 (O 6))){nd ed:aK}(hn:nd.length=D.bN.length)(he:ed.length<D.bE.length)(r2:nO D.aE.length ed){w:Ed}{f:R}
 (ih:∀{ed:aK} {s s':aP} {Uqq:gC},jW Uqq p q=O (D.c s (O 6))->ed.length<=D.bE.length->nO D.aE.length ed->s'.length<=1000000->ug D f nd ed s=O s'->VW gl base 143 [.ptr p q 0,aO nd,aO ed] Uqq=O (.bp [],kP Uqq p q D s s',decide (s.length<s'.length)))
 {r:aP} (ag:s0<+:s) (h:uD (Af (Cp D w ed (ug D f nd)) s0 1000000) D.aE.zipIdx s=O (.inl r)):
 cO af gl (VW gl base) 103 NQ (Cg S p q D nd ed 0) (SH S p q D w s0 s)=O (.exit 0,Cg S p q D nd ed D.aE.length++[(81,eB false)],SH S p q D w s0 r):=by
 obtain⟨n1,n2,n3,n4⟩:=K.n
 have hL:=aor (P:=af) (gl:=gl) (aae:=VW gl base) (n:=103) (l:=D.aE.zipIdx) (C:=NQ) (Bqq:=Fe) (f:=Af (Cp D w ed (ug D f nd)) s0 1000000)
  (TT:=λ i _=>Cg S p q D nd ed i) (ST:=λ s=>SH S p q D w s0 s)
  (Xqq:=λ s=>(.exit 0,Cg S p q D nd ed D.aE.length++[(81,eB false)],SH S p q D w s0 s)) ?_ ?_ ?_ s _ h
 .exact hL
 .intro i s;rw[aJC];simp+decide only[VB,lk,bU,↓ky,eF,et,Cg]
 .intro i s pe hi hp;rw[aeb]at hi;obtain⟨y,hy⟩:∃y,D.aE[i]? =O y:=⟨_,eg hi⟩;have ad:pe=(y,i):=bP;subst ad;have Y:(D.aE.map Ed.c)[i]? =O y.c:=bP;have u:((i:U)<(D.aE.length:U))=True:=mU aa;by_cases A:s0<+:s/\(∀s',Cp D w ed (ug D f nd) (y,i) s=O (.inl s')->s'.length<=1000000)
  case neg=>rw[Af,aR A];trivial
  rw[Af,aY A];have hU:=TQ A.1 hh;have J:(kP S p q D s0 s).length=S.length:=Qj;have gp:p≠S.length:=by have:=rF hh;omega
  have Z:(p==S.length)=false:=by simp;exact gp
  have gd:(p=S.length)=False:=tQ gp;have N:=nZ (P:=af) (t:=3) (aa:i<=4611686018427387904);have ab:∀S,VW gl base 144 [aO ed] S=O (.sl (ed.map λ n=>[eI n]) (O 1),S,false):=λ S=>sZ Q (K.cl _ aa) Q
  have M:∀S,VW gl base 145 [aO ed,eI i] S=O (eB (ed.any λ y=>decide ((i:U)=y)),S,false):=λ S=>EX aa
  have heq:=anM (x:=y) (y:=w);simp only[Ed.c]at heq;unfold Cp at A⊢;simp only at A⊢;cases hb:JW y w;.rw[hb]at heq;simp only[hb,Bool.false_eq_true,false_and,KK];simp+decide only[Fe,VB,lk,bU,↓ky,eF,et,jx,lK,lG,lI,lL,lF,eR,jM,kS,kR,gU,lM,br,NU,QA,R0,Tq,Cg,u,fc Y,Ed.c,J,gd,Z,N,heq];rfl
  rw[hb]at heq;cases ha:ed.any λ y=>decide ((i:U)=y)
  .simp only[hb,ha,uM,KI]at A⊢;cases hm:ug D f nd (ed++[(i:U)]) s;.trivial
   rename_i s';simp only;have ac:s'.length<=1000000:=A.2 s' (by rw[hm]);have hr:∀F,VW gl base 143 [.ptr p q 0,aO nd,aO (ed++[(i:U)])] (F::kP S p q D s0 s)=O (.bp [],F::kP S p q D s0 s',decide (s.length<s'.length)):=by intro F;rw[ih (Oa hU) gD (r2.push ⟨aa,aa⟩) ac hm,MN (by rw[J];exact gp),al1 A.1 (Co hm)]
   have ae:=λ st=>Rj (st:=st) (l:=ed) (x:=(i:U)) aa
   have hw:=ak1 A.1 (Co hm);simp+decide only[Fe,VB,lk,bU,↓ky,eF,et,jx,lK,lG,lI,lL,lF,eR,jM,kS,kR,gU,lM,br,NU,QA,R0,ae1,Tq,Cg,u,fc Y,Ed.c,J,gd,Z,N,heq,iA G8,M,ha,iA QC,ab,ae,iA Yu,hr,hw];rfl
  simp only[hb,ha,asS,and_false,KK];simp+decide only[Fe,VB,lk,bU,↓ky,eF,et,jx,lK,lG,lI,lL,lF,eR,jM,kS,kR,gU,lM,br,NU,QA,R0,Tq,Cg,u,fc Y,Ed.c,J,gd,Z,N,heq,iA G8,M,ha];rfl
 .intro s;refine⟨?_,λ h=>bk⟩;rw[aeb];simp+decide only[Fe,VB,lk,bU,↓ky,eF,et,jx,lK,lG,lI,lL,lF,eR,jM,kS,kR,gU,lM,br,NU,uN,Cg]
end
section
variable{b d e:ak}
variable{gl:bH}{base:fi}{D:Ov}{p q:R}
theorem ap6{st:aG}{o:aP}{x:be}(h:o.length<=1000000)(hx:km 6 [x]=V):qt st 6 (.sl o (O 6)) (.sl [x] (O 6))=O (.sl (o++[x]) (O 6)):=by grind[JR]
def aCn{c:ak}:pL V 2 [a,b,c,d,e] 0=O (.agg [a,b]):=rfl
def aJO{c:ak}:pL V 2 [a,b,c,d,e] 2=O (.agg [c,d]):=rfl
theorem aFc(K:Ix gl base D)(hn:nd.length=D.bN.length)(r1:nO D.aN.length nd):
 ∀{f:R} {ed:aK} {s Z:aP} {Uqq:gC},jW Uqq p q=O (D.c s (O 6))->ed.length<=D.bE.length->nO D.aE.length ed->Z.length<=1000000->ug D f nd ed s=O Z->VW gl base 143 [.ptr p q 0,aO nd,aO ed] Uqq=O (.bp [],kP Uqq p q D s Z,decide (s.length<Z.length)):=by
 intro f;induction f with
 |zero=>intro ed s Z Uqq _ _ _ _ h;cases h
 |succ f ih=>
  intro ed s Z Uqq M he r2 au h;obtain⟨n1,n2,n3,n4⟩:=K.n;have ap:=(Co h).length_le;have gd:(p=Uqq.length)=False:=tQ (by have:=rF M;omega);have Y:(p==Uqq.length)=false:=by have:=rF M;simp;omega
  have P:(Uqq.length==p)=false:=by have:=rF M;simp;omega
  refine Lm axr Q Q ?_;simp only[ug]at h;have y:=M;simp only[Ov.c]at y;split at h;.rename_i h1;cases h;have e1:((s.length:U)>2000)=True:=mU aa;have e2:decide (s.length<s.length)=false:=aw;rw[anW,e2];simp+decide only[jd,Rf,VB,lk,bU,↓ky,eF,et,jx,lK,lG,lI,lL,lF,eR,jM,kS,kR,gU,lM,br,Rt,gd,Y,y,e1];rfl
  rename_i h1;have e1:((s.length:U)>2000)=False:=tQ aa;split at h
  .rename_i h2;cases h;have e2:((ed.length:U)=(D.bE.length:U))=True:=mU aa;have hG:∀A,jW (qm Uqq p q A) p q=O A:=λ A=>by grind[TX]
   have ad:=K.gl nd ed hn h2 r1 r2;have J:=λ st=>ap6 (st:=st) (o:=s) (x:=D.G nd ed) aa Q
   have ac:s.length<(s++[D.G nd ed]).length:=aw;have an:decide (s.length<(s++[D.G nd ed]).length)=true:=jR ac;simp only[Ov.G]at ad J;rw[show kP Uqq p q D s (s++[D.G nd ed])=qm Uqq p q (D.c (s++[D.G nd ed]) (O 6))from aY ac,an];simp only[Ov.c,Ov.G];simp+decide only[jd,Rf,VB,lk,bU,↓ky,eF,et,jx,lK,lG,lI,lL,lF,eR,jM,kS,kR,gU,lM,br,Rt,ada,aib,gd,Y,P,y,e1,e2,aCn,aJO,iA aBt,ad,jx,J,DV,YP,hG];rfl
  rename_i h2;have e2:((ed.length:U)=(D.bE.length:U))=False:=tQ aa;split at h;.cases h
  rename_i x hx;split at h
  .rename_i u v hu hv;split at h
   .rename_i o1 h3;split at h
    .rename_i r h4;cases h;have am:ed.length<D.bE.length:=aa;have ab:(D.bE.map Ed.c)[ed.length]? =O x.c:=bP;obtain⟨ku,aj,ar,ai⟩:=ape hu;obtain⟨kv,ah,aq,ag⟩:=ape hv;have ae:∀S,VW gl base 144 [aO ed] S=O (.sl (ed.map λ n=>[eI n]) (O 1),S,false):=λ S=>sZ Q (K.cl _ aa) Q
     have J:=λ st=>Rj (st:=st) (l:=ed) (x:= -1) aa
     have p1:=Co h3;have p2:=IB (λ _ _ _ h=>VI (λ _ _ _ h=>Co h) h) h4;have hr:∀F,VW gl base 143 [.ptr p q 0,aO nd,aO (ed++[-1])] (F::Uqq)=O (.bp [],F::kP Uqq p q D s o1,decide (s.length<o1.length)):=by intro F;rw[ih (Oa M) gD (r2.push ⟨aa,aa⟩) (by have:=p2.length_le;omega) h3,MN (by have:=rF M;omega)]
     have ao:=TQ p1 M;have N:=ao;simp only[Ov.c]at N;have al:(kP Uqq p q D s o1).length=Uqq.length:=Qj;have hL:=ovL K M (f:=f) hn am r2 (w:=⟨x.ty,u,v⟩) (λ a b c d e=>ih a b c aa e) p1 (Z6 (s0:=s) (Bqq:=1000000) (λ _ _ _ h=>VI (λ _ _ _ h=>Co h) h) p1 aa h4);have hL:cO af gl (VW gl base) 103 NQ [(0,.ptr p q 0),(1,aO nd),(2,aO ed),(7,.ptr Uqq.length 7 0),(78,gS D.aE),(79,eI D.aE.length),(80,eI 0)] {w:=decide (s.length<o1.length),cur:=[(7,[eI x.ty,eI u,eI v])],up:=kP Uqq p q D s o1}=_:=hL;simp only[Ed.c,aj,ah]at ab;simp+decide only[jd,Rf,VB,lk,bU,↓ky,eF,et,jx,lK,lG,lI,lL,lF,eR,jM,kS,kR,gU,lM,br,Rt,ada,aoM,afq,ajJ,afC,gd,Y,P,y,e1,e2,fc ab,fc ai,fc ag,iA QC,ae,jx,J,iA Yu,hr,al,N,hL];rfl
    cases h
   cases h
  cases h
abbrev Bf(p q:R)(D:Ov)(nd:aK)(i:R):VT:=[(0,.ptr p q 0),(1,aO nd),(34,aO D.aN),(35,eI D.aN.length),(36,eI i)]
abbrev Rp(S:gC)(p q:R)(D:Ov)(u s:aP):aG:={w:=decide (u.length<s.length),cur:=[],up:=kP S p q D u s}
def ovM(K:Ix gl base D){S:gC}{A s:aP}(hh:jW S p q=O (D.c A (O 6))){nd:aK}(hn:nd.length<D.bN.length)(r1:nO D.aN.length nd){f:R}
 (ih:∀{nd:aK} {s J:aP} {Uqq:gC},jW Uqq p q=O (D.c s (O 6))->nd.length<=D.bN.length->nO D.aN.length nd->J.length<=1000000->tV D f nd s=O J->VW gl base 72 [.ptr p q 0,aO nd] Uqq=O (.bp [],kP Uqq p q D s J,decide (s.length<J.length)))
 {r:aP} (am:A<+:s) (h:uD (Af (BG D nd (tV D f)) A 1000000) D.aN.zipIdx s=O (.inl r)):
 cO af gl (VW gl base) 66 MA (Bf p q D nd 0) (Rp S p q D A s)=O (.exit 0,Bf p q D nd D.aN.length++[(37,eB false)],Rp S p q D A r):=by
 obtain⟨n1,n2,n3,n4⟩:=K.n
 have hL:=aor (P:=af) (gl:=gl) (aae:=VW gl base) (n:=66) (l:=D.aN.zipIdx) (C:=MA) (Bqq:=EO) (f:=Af (BG D nd (tV D f)) A 1000000)
  (TT:=λ i _=>Bf p q D nd i) (ST:=λ s=>Rp S p q D A s)
  (Xqq:=λ s=>(.exit 0,Bf p q D nd D.aN.length++[(37,eB false)],Rp S p q D A s)) ?_ ?_ ?_ s _ h
 .exact hL
 .intro i s;rw[axF];simp+decide only[VB,lk,bU,↓ky,eF,et,Bf]
 .intro i s pe hi hp;rw[aeb]at hi;obtain⟨y,hy⟩:∃y,D.aN[i]? =O y:=⟨_,eg hi⟩;have aj:pe=(y,i):=bP;subst aj;have ad:(D.aN.map λ n=>[eI n])[i]? =O [eI y]:=bP;have M:((i:U)<(D.aN.length:U))=True:=mU aa;by_cases N:A<+:s/\(∀J,BG D nd (tV D f) (y,i) s=O (.inl J)->J.length<=1000000)
  case neg=>rw[Af,aR N];trivial
  rw[Af,aY N];have hU:=TQ N.1 hh;have Z:=hU;simp only[Ov.c]at Z;have Y:(kP S p q D A s).length=S.length:=Qj;have gp:p≠S.length:=by have:=rF hh;omega
  have ag:(p==S.length)=false:=by simp;exact gp
  have gd:(p=S.length)=False:=tQ gp;have ac:=nZ (P:=af) (t:=3) (aa:i<=4611686018427387904);have ah:∀S,VW gl base 144 [aO nd] S=O (.sl (nd.map λ n=>[eI n]) (O 1),S,false):=λ S=>sZ Q (K.cl _ aa) Q
  have ab:∀S,VW gl base 145 [aO nd,eI i] S=O (eB (nd.any λ y=>decide ((i:U)=y)),S,false):=λ S=>EX aa
  unfold BG at N⊢;obtain⟨b,hb⟩:∃b,D.bN[nd.length]? =O b:=⟨_,eg hn⟩;have ae:(D.bN.map λ n=>[eI n])[nd.length]? =O [eI b]:=bP;simp only[hb]at N⊢;by_cases heq:y=b
  .have u:((y:U)=b)=True:=mU heq;cases ha:nd.any λ y=>decide ((i:U)=y)
   .simp only[heq,ha,uM,KI]at N⊢;cases hm:tV D f (nd++[(i:U)]) s;.trivial
    rename_i J;simp only;have ai:J.length<=1000000:=N.2 J (by rw[hm]);have hr:∀F,VW gl base 72 [.ptr p q 0,aO (nd++[(i:U)])] (F::kP S p q D A s)=O (.bp [],F::kP S p q D A J,decide (s.length<J.length)):=by intro F;rw[ih (Oa hU) gD (r1.push ⟨aa,aa⟩) ai hm,MN (by rw[Y];exact gp),al1 N.1 (Gz hm)]
    have al:=λ st=>Rj (st:=st) (l:=nd) (x:=(i:U)) aa
    have hw:=ak1 N.1 (Gz hm);simp+decide only[EO,VB,lk,bU,↓ky,eF,et,jx,lK,lG,lI,lL,lF,eR,jM,kS,kR,gU,lM,br,My,TK,Ur,aom,P3,Bf,M,fc ad,fc ae,Y,Z,gd,ag,ac,u,iA G8,ab,ha,iA QC,ah,al,iA O2,hr,hw]
   simp only[ha,asS,and_false,KK];simp+decide only[EO,VB,lk,bU,↓ky,eF,et,jx,lK,lG,lI,lL,lF,eR,jM,kS,kR,gU,lM,br,My,TK,Ur,P3,Bf,M,fc ad,fc ae,Y,Z,gd,ag,ac,u,iA G8,ab,ha]
  have u:((y:U)=b)=False:=tQ heq;simp only[heq,false_and,KK];simp+decide only[EO,VB,lk,bU,↓ky,eF,et,jx,lK,lG,lI,lL,lF,eR,jM,kS,kR,gU,lM,br,My,TK,Ur,P3,Bf,M,fc ad,fc ae,Y,Z,gd,ag,ac,u]
 .intro s;refine⟨?_,λ h=>bk⟩;rw[aeb];simp+decide only[EO,VB,lk,bU,↓ky,eF,et,jx,lK,lG,lI,lL,lF,eR,jM,kS,kR,gU,lM,br,My,uN,Bf]
theorem w72(K:Ix gl base D):
 ∀{f:R} {nd:aK} {s y:aP} {Uqq:gC},jW Uqq p q=O (D.c s (O 6))->nd.length<=D.bN.length->nO D.aN.length nd->y.length<=1000000->tV D f nd s=O y->VW gl base 72 [.ptr p q 0,aO nd] Uqq=O (.bp [],kP Uqq p q D s y,decide (s.length<y.length)):=by
 intro f;induction f with
 |zero=>intro nd s y Uqq _ _ _ _ h;cases h
 |succ f ih=>
  intro nd s y Uqq A he r1 Z h;obtain⟨n1,n2,n3,n4⟩:=K.n;have gd:(p=Uqq.length)=False:=tQ (by have:=rF A;omega);have M:(p==Uqq.length)=false:=by have:=rF A;simp;omega
  refine Lm m72 Q Q ?_;simp only[tV]at h;have u:=A;simp only[Ov.c]at u;split at h;.rename_i h1;cases h;have e1:((s.length:U)>2000)=True:=mU aa;have e2:decide (s.length<s.length)=false:=aw;rw[anW,e2];simp+decide only[jd,QI,VB,lk,bU,↓ky,eF,et,jx,lK,lG,lI,lL,lF,eR,jM,kS,kR,gU,lM,br,QS,gd,M,u,e1];rfl
  rename_i h1;have e1:((s.length:U)>2000)=False:=tQ aa;split at h
  .rename_i h2;have e2:((nd.length:U)=(D.bN.length:U))=True:=mU aa;have hr:∀F,VW gl base 143 [.ptr p q 0,aO nd,.sl [] X] (F::Uqq)=O (.bp [],F::kP Uqq p q D s y,decide (s.length<y.length)):=by intro F;have:=aFc K h2 r1 (Oa (F:=F) A) (kG _) (λ x hx=>bk) Z h;grind[MN,rF]
   simp+decide only[jd,QI,VB,lk,bU,↓ky,eF,et,jx,lK,lG,lI,lL,lF,eR,jM,kS,kR,gU,lM,br,QS,adh,aks,gd,M,u,e1,e2,iA Yu,hr];rfl
  rename_i h2;have e2:((nd.length:U)=(D.bN.length:U))=False:=tQ aa;split at h
  .rename_i Y h3;split at h
   .rename_i r h4;cases h;have ab:nd.length<D.bN.length:=aa;have N:∀S,VW gl base 144 [aO nd] S=O (.sl (nd.map λ n=>[eI n]) (O 1),S,false):=λ S=>sZ Q (K.cl _ aa) Q
    have ad:=λ st=>Rj (st:=st) (l:=nd) (x:= -1) aa
    have P:=Gz h3;have p2:=IB (λ _ _ _ h=>ZK (λ _ _ _ h=>Gz h) h) h4;have hr:∀F,VW gl base 72 [.ptr p q 0,aO (nd++[-1])] (F::Uqq)=O (.bp [],F::kP Uqq p q D s Y,decide (s.length<Y.length)):=by intro F;rw[ih (Oa A) gD (r1.push ⟨aa,aa⟩) (by have:=p2.length_le;omega) h3,MN (by have:=rF A;omega)]
    have J:=TQ P A;simp only[Ov.c]at J;have ac:(kP Uqq p q D s Y).length=Uqq.length:=Qj;have hL:=ovM K A (f:=f) ab r1 (λ a b c d e=>ih a b c d e) P (Z6 (s0:=s) (Bqq:=1000000) (λ _ _ _ h=>ZK (λ _ _ _ h=>Gz h) h) P aa h4);have hL:cO af gl (VW gl base) 66 MA [(0,.ptr p q 0),(1,aO nd),(34,aO D.aN),(35,eI D.aN.length),(36,eI 0)] _=_:=hL;simp+decide only[jd,QI,VB,lk,bU,↓ky,eF,et,jx,lK,lG,lI,lL,lF,eR,jM,kS,kR,gU,lM,br,QS,adh,ajy,agT,gd,M,u,e1,e2,iA QC,N,jx,ad,iA O2,hr,ac,J,hL];rfl
   cases h
  cases h
end
section
variable{P:be->Prop}
variable{gl:bH}{base:fi}{D:Ov}{p q:R}
theorem WD{σ:Type}{f:α->σ->gw (σ⊕jH)}{I:σ->Prop}:∀{l:B α} {s:σ},I s->(∀x∈l,∀s,I s->∃u,f x s=O (.inl u)/\I u)->∃r,uD f l s=O (.inl r)/\I r
 |[],s,h,_=>⟨s,Q,h⟩
 |x::l,s,h,A=>by
  obtain⟨u,h1,h2⟩:=A x dJ s h;obtain⟨r⟩:=WD h2 λ y D=>A y (cV _ D)
  grind[uD]
structure NC (P:be->Prop) (o:aP):Prop where
 len:o.length<=2001
 all:∀x∈o,P x
def aiR{i:U}(h0:0<=i)(h1:i<l.length):∃v,J8 l i=O v:=by unfold J8;rw[aY h0];exact⟨_,eg aa⟩
theorem aeP{l:B α}{x:α}(h:(x,i)∈l.zipIdx):i<l.length:=by grind
theorem XJ(M:∀nd ed,nd.length=D.bN.length->ed.length=D.bE.length->nO D.aN.length nd->nO D.aE.length ed->P (D.G nd ed))(hE:∀e∈D.bE,(0<=e.fr/\e.fr<D.bN.length)/\0<=e.to/\e.to<D.bN.length)
 (K:nd.length=D.bN.length) (r1:nO D.aN.length nd):∀(f:R) {ed:aK} {o:aP},D.bE.length<f+ed.length->ed.length<=D.bE.length->nO D.aE.length ed->NC P o->∃r,ug D f nd ed o=O r/\NC P r
 |0,ed,o,h1,h2,_,_=>by omega
 |f+1,ed,o,h1,h2,r2,F=>by
  simp only[ug];split;.exact⟨o,Q,F⟩
  split
  .refine⟨_,Q,gD,λ x hx=>?_⟩;rcases wa.1 hx with hx|hx
   .exact F.all x hx
   grind[List.mem_singleton]
  obtain⟨x,hx⟩:∃x,D.bE[ed.length]? =O x:=⟨_,eg aa⟩;obtain⟨⟨e1,e2⟩,e3,e4⟩:=hE x (iD hx);obtain⟨u,hu⟩:=aiR (l:=nd) e1 aa;obtain⟨v,hv⟩:=aiR (l:=nd) e3 aa;obtain⟨Z,k1,Y⟩:=XJ M hE K r1 f (ed:=ed++[-1]) gD gD (r2.push ⟨aa,aa⟩) F
  obtain⟨r,k3,k4⟩:=WD (f:=Cp D ⟨x.ty,u,v⟩ ed (ug D f nd)) (I:=NC P) (l:=D.aE.zipIdx) Y λ pe A s J=>by
   obtain⟨y,i⟩:=pe;have hi:=aeP A;unfold Cp;split;.obtain⟨r,S,N⟩:=XJ M hE K r1 f (ed:=ed++[(i:U)]) gD gD (r2.push ⟨aa,aa⟩) J;rw[S];exact⟨r,Q,N⟩
   exact⟨s,Q,J⟩
  grind
theorem Z9(J:∀nd ed,nd.length=D.bN.length->ed.length=D.bE.length->nO D.aN.length nd->nO D.aE.length ed->P (D.G nd ed))(hE:∀e∈D.bE,(0<=e.fr/\e.fr<D.bN.length)/\0<=e.to/\e.to<D.bN.length)(F:D.bE.length<100):
 ∀(f:R) {nd:aK} {o:aP},D.bN.length<f+nd.length->nd.length<=D.bN.length->nO D.aN.length nd->NC P o->∃r,tV D f nd o=O r/\NC P r
 |0,nd,o,h1,h2,_,_=>by omega
 |f+1,nd,o,h1,h2,r1,K=>by
  rw[tV];split;.exact⟨o,Q,K⟩
  split;.rename_i h3 Z;exact XJ J hE Z r1 100 (by simpa using F) (kG _) (nofun) K
  obtain⟨b,A⟩:∃x,D.bN[nd.length]? =O x:=⟨_,eg aa⟩;obtain⟨o1,k1,Y⟩:=Z9 J hE F f (nd:=nd++[-1]) gD gD (r1.push ⟨aa,aa⟩) K
  obtain⟨r,k3,k4⟩:=WD (f:=BG D nd (tV D f)) (l:=D.aN.zipIdx) Y λ pe u s M=>by
   obtain⟨y,i⟩:=pe;have hi:=aeP u;unfold BG;simp only[A];split;.obtain⟨r,S,N⟩:=Z9 J hE F f (nd:=nd++[(i:U)]) gD gD (r1.push ⟨aa,aa⟩) M;rw[S];exact⟨r,Q,N⟩
   exact⟨s,Q,M⟩
  grind
def q71:ly af 71=true:=aH
theorem w39(K:Ix gl base D)(hs:D.aN.length+D.bN.length<=40)(N:D.aE.length+D.bE.length<=80)(ha:∀S,VW gl base 71 [.agg [aO D.aN,gS D.aE]] S=O (eI 0,S,W))(hb:∀S,VW gl base 71 [.agg [aO D.bN,gS D.bE]] S=O (eI 0,S,W))
 {r:aP} (Y:tV D 100 [] []=O r) (Z:r.length<=1000000):VW gl base 39 [.agg [aO D.aN,gS D.aE],.agg [aO D.bN,gS D.bE]] S=O (if 2000<r.length then .bp [.sl [] X,eI 3]else .bp [.sl r X,eI 0],S,W):=by
 obtain⟨n1,n2,n3,n4⟩:=K.n
 have hL:=uh (P:=af) (gl:=gl) (aae:=VW gl base) (n:=58) (len:=2) (C:=Ux) (Bqq:=I3) (f:=λ _ s=>O (.inl s))
  (TT:=λ i (_:Unit)=>[(2,.ptr 0 2 0),(3,.ptr 0 3 0),(12,.sl [[aO D.aN,gS D.aE],[aO D.bN,gS D.bE]] (O 2)),(13,eI (2:R)),(14,eI i)]) (ST:=λ _=>(ez [(2,[aO D.aN,gS D.aE]),(3,[aO D.bN,gS D.bE])] []))
  (Xqq:=λ _=>(.exit 0,[(2,.ptr 0 2 0),(3,.ptr 0 3 0),(12,.sl [[aO D.aN,gS D.aE],[aO D.bN,gS D.bE]] (O 2)),(13,eI (2:R)),(14,eI (2:R)),(15,eB W)],(ez [(2,[aO D.aN,gS D.aE]),(3,[aO D.bN,gS D.bE])] []))) ?_ ?_ ?_ 2 0 () (.inl ()) Q Q
 .have hL:cO af gl (VW gl base) 58 Ux [(2,.ptr 0 2 0),(3,.ptr 0 3 0),(12,.sl [[aO D.aN,gS D.aE],[aO D.bN,gS D.bE]] (O 2)),(13,eI ((2:R):U)),(14,eI 0)] _=_:=hL;have e1:((D.aN.length:U)+(D.bN.length:U)>40)=False:=tQ aa;have e2:((D.aE.length:U)+(D.bE.length:U)>80)=False:=tQ aa;have M:fU af .add 3 (eI (D.aN.length:U)) (eI (D.bN.length:U))=O (eI ((D.aN.length:U)+(D.bN.length:U))):=TF xT;have J:fU af .add 3 (eI (D.aE.length:U)) (eI (D.bE.length:U))=O (eI ((D.aE.length:U)+(D.bE.length:U))):=TF xT
  have A:VW gl base 72 [.ptr 0 45 0,.sl [] X] [[(45,[aO D.aN,gS D.aE,aO D.bN,gS D.bE,.sl [] (O 6)])]]=O (.bp [],[[(45,[aO D.aN,gS D.aE,aO D.bN,gS D.bE,.sl r (O 6)])]],decide (0<r.length)):=by
   have:=w72 K (p:=0) (q:=45) (Uqq:=[[(45,D.c [] (O 6))]]) (nd:=[]) (s:=[]) Q (kG _) (λ x hx=>bk) Z Y;refine this.trans ?_;unfold kP;split;.rfl
   rename_i h0;have:r=[]:=mF (by simp at h0;simp[h0]);subst this;rfl
  refine uY (S':=[]) (w:=decide (0<r.length)) m39 Q Q ?_;by_cases F:2000<r.length;.have e3:((r.length:U)>2000)=True:=mU aa;rw[aY F];simp+decide only[jd,Wa,VB,lk,bU,↓ky,eF,et,jx,lK,lG,lI,lL,lF,eR,jM,kS,kR,gU,lM,br,X3,acF,XB,Xn,abX,adg,alu,ajR,aie,aoY,aiS,apo,hL,e1,e2,M,J,iA O2,A,e3]
  have e3:((r.length:U)>2000)=False:=tQ aa;rw[aR F];simp+decide only[jd,Wa,VB,lk,bU,↓ky,eF,et,jx,lK,lG,lI,lL,lF,eR,jM,kS,kR,gU,lM,br,X3,acF,XB,Xn,abX,adg,ao0,ajR,aie,aoY,aiS,apo,hL,e1,e2,M,J,iA O2,A,e3]
 .intro i s;rw[aEa];simp+decide only[VB,lk,bU,↓ky,eF,et]
 .intro i s hi;simp only;have y:((i:U)<((2:R):U))=True:=mU aa;have u:=nZ (P:=af) (t:=3) (aa:i<=4611686018427387904);have h2:([[aO D.aN,gS D.aE],[aO D.bN,gS D.bE]]:aP)[i]? =O (if i=0 then[aO D.aN,gS D.aE]else[aO D.bN,gS D.bE]):=by grind
  by_cases h0:i=0;.rw[aY h0]at h2;simp+decide only[I3,VB,lk,bU,↓ky,eF,et,jx,lK,lG,lI,lL,lF,eR,jM,kS,kR,gU,lM,br,Uc,adn,Xv,Yf,Z7,y,u,fc h2,iA q71,ha]
  rw[aR h0]at h2;simp+decide only[I3,VB,lk,bU,↓ky,eF,et,jx,lK,lG,lI,lL,lF,eR,jM,kS,kR,gU,lM,br,Uc,adn,Xv,Yf,Z7,y,u,fc h2,iA q71,hb]
 .intro s;refine⟨?_,λ h=>bk⟩;simp+decide only[I3,VB,lk,bU,↓ky,eF,et,jx,lK,lG,lI,lL,lF,eR,jM,kS,kR,gU,lM,br,Uc,uN]
end
section
variable{Rqq:jH}
variable{gl:bH}{base:fi}
structure FV where
 pN:aK
 pE:vm
 hN:aK
 hE:vm
 bl:B iu
 qN:aK
 qE:aK
 inj:mi
 lim:U
def FV.c(D:FV)(ns es:aK)(o:ak):be:=[aO D.pN,gS D.pE,aO D.hN,gS D.hE,.sl (D.bl.map λ r=>[xS r]) X,aO D.qN,aO D.qE,eB D.inj,eI D.lim,aO ns,aO es,o]
def C5(base:fi):Prop:=∀(q:aK) (i:R) (x:U),q[i]? =O x->base 346 [aO q,eI (i:U)]=O (eI x)
def aln(u:C5 base){q:aK}{x:U}(h:q[i]? =O x)(S:gC):VW gl base 346 [aO q,eI (i:U)] S=O (eI x,S,W):=sZ Q (u q i x h) Q
def Ae(D:FV)(ns:aK)(i j:R):tD:=
 match D.pE[i]?,D.qE[i]?with
 |O e,O q=>if q>=0/\q≠(j:U)then O W else
  match D.hE[j]?,e.fr,e.to with
  |O h,.ofNat a,.ofNat b=>(match ns[a]?,ns[b]?with|O x,O y=>O (JW h ⟨e.ty,x,y⟩)|_,_=>X)
  |_,_,_=>X
 |_,_=>X
set_option maxRecDepth 100000 in
def aBx{D:FV}(N:∀q:U,D.qE[i]? =O q->∀S,aae 346 [aO D.qE,eI (i:U)] S=O (eI q,S,W))(h:Ae D ns i j=O b):
 jd af gl aae MJ [.rp (D.c ns es o) 0,eI (i:U),eI (j:U)] S=O (eB b,S,W):=by
 unfold Ae at h;split at h
 .rename_i e q he Z;have u:(D.pE.map Ed.c)[i]? =O [eI e.ty,eI e.fr,eI e.to]:=by rw[mu,he];rfl
  have Mp:ly af 346=true:=aH;have N:=N q Z;split at h;.rename_i h1;cases h;have e1:(q>=0)=True:=mU h1.1;have e2:(q=(j:U))=False:=tQ h1.2;simp+decide only[jd,MJ,VB,lk,bU,↓ky,eF,et,jx,lK,lG,lI,lL,lF,eR,jM,kS,kR,gU,lM,br,FV.c,PQ,RV,ON,Rq,aoA,fc u,iA Mp,N,e1,e2]
  rename_i h1;split at h
  .rename_i A a Y hh ha hb;split at h
   .rename_i x y hx hy;cases h;have M:(D.hE.map Ed.c)[j]? =O [eI A.ty,eI A.fr,eI A.to]:=by rw[mu,hh];rfl
    have J:(ns.map λ n=>[eI n])[a]? =O [eI x]:=bP;have F:(ns.map λ n=>[eI n])[Y]? =O [eI y]:=bP;have ea:e.fr=(a:U):=ha;have eb:e.to=(Y:U):=hb;rw[ea,eb]at u;have K:fU af .eql 95 (.agg [eI A.ty,eI A.fr,eI A.to]) (.agg [eI e.ty,eI x,eI y])=O (eB (JW A ⟨e.ty,x,y⟩)):=anM (x:=A) (y:=⟨e.ty,x,y⟩);by_cases h0:q>=0
    .have P:q=(j:U):=aec.1 λ h=>h1 ⟨h0,h⟩
     subst P;simp+decide only[jd,MJ,VB,lk,bU,↓ky,eF,et,jx,lK,lG,lI,lL,lF,eR,jM,kS,kR,gU,lM,br,FV.c,PQ,RV,ON,Rq,abR,fc u,fc M,fc J,fc F,iA Mp,N,K,jR h0]
    simp+decide only[jd,MJ,VB,lk,bU,↓ky,eF,et,jx,lK,lG,lI,lL,lF,eR,jM,kS,kR,gU,lM,br,FV.c,PQ,RV,ON,Rq,abR,fc u,fc M,fc J,fc F,iA Mp,N,K,my h0]
   cases h
  cases h
 .cases h
def UZ(y:C5 base){D:FV}(h:Ae D ns i j=O b)(S:gC):VW gl base 348 [.rp (D.c ns es o) 0,eI (i:U),eI (j:U)] S=O (eB b,S,W):=Lm aHN Q Q (aBx (λ q u S=>aln y u S) h)
def AF(D:FV)(ns:aK)(i:R):R->R->tD
 |0,_=>O W
 |k+1,j=>match Ae D ns i j with|O V=>O V|O W=>AF D ns i k (j+1)|X=>X
def zo(D:FV)(ns:aK):R->R->tD
 |0,_=>O V
 |k+1,i=>match D.pE[i]?with
  |O e=>if max e.fr e.to≠(ns.length:U)- 1 then zo D ns k (i+1)else(match AF D ns i D.hE.length 0 with|O V=>zo D ns k (i+1)|O W=>O W|X=>X)
  |X=>X
def Rs(D:FV)(ns:aK)(i:R)(Rqq:jH)(j:R)(_:Unit):gw (Unit⊕jH):=match Ae D ns i j with|O V=>O (.inr Rqq)|O W=>O (.inl ())|X=>X
def hcF(aae:eE)(D:FV)(ns es:aK)(o:ak):Prop:=∀(i j:R) (b:mi),Ae D ns i j=O b->∀S,aae 348 [.rp (D.c ns es o) 0,eI (i:U),eI (j:U)] S=O (eB b,S,W)
theorem agp{D:FV}:∀{k j:R} {b:mi},AF D ns i k j=O b->jC (Rs D ns i Rqq) k j ()=O (if b then .inr Rqq else .inl ())
 |0,j,b,h=>by cases h;rfl
 |k+1,j,b,h=>by
  rw[AF]at h;rw[jC,Rs];split at h;.grind
  .exact agp h
  cases h
def Jd{o:R}:mA S (.rp cs o)=.rp cs o:=rfl
def Hs{o:R}:(ak.rp cs o).kZ=false:=rfl
def Om:ly af 348=true:=aH
def atZ{aae:eE}{D:FV}(J:hcF aae D ns es o){m:U}{c:ak}(K:D.hE.length<=1000000)(h:AF D ns i D.hE.length 0=O b):
 cO af gl aae 49 Rn [(0,.rp (D.c ns es o) 0),(3,eI m),(4,eI (i:U)),(6,eB W),(18,a),(19,c),(20,eI (i:U)),(37,eI (D.hE.length:U)),(38,eI 0)] (ez [] S)=O (.exit 2,(if b then[(0,.rp (D.c ns es o) 0),(3,eI m),(6,eB V),(18,a),(19,c),(20,eI (i:U))]else[(0,.rp (D.c ns es o) 0),(3,eI m),(4,eI (i:U)),(6,eB W),(18,a),(19,c),(20,eI (i:U)),(37,eI (D.hE.length:U)),(38,eI (D.hE.length:U)),(39,eB W)]),(ez [] S)):=by
 have hL:=uh (P:=af) (gl:=gl) (aae:=aae) (n:=49) (len:=D.hE.length) (C:=Rn) (Bqq:=Ie) (f:=Rs D ns i (.exit 2,[(0,.rp (D.c ns es o) 0),(3,eI m),(6,eB V),(18,a),(19,c),(20,eI (i:U))],(ez [] S)))
  (TT:=λ j _=>[(0,.rp (D.c ns es o) 0),(3,eI m),(4,eI (i:U)),(6,eB W),(18,a),(19,c),(20,eI (i:U)),(37,eI (D.hE.length:U)),(38,eI (j:U))]) (ST:=λ _=>(ez [] S))
  (Xqq:=λ _=>(.exit 2,[(0,.rp (D.c ns es o) 0),(3,eI m),(4,eI (i:U)),(6,eB W),(18,a),(19,c),(20,eI (i:U)),(37,eI (D.hE.length:U)),(38,eI (D.hE.length:U)),(39,eB W)],(ez [] S))) ?_ ?_ ?_ D.hE.length 0 ()
 .refine(hL _ aa (agp h)).trans ?_;cases b<;>rfl
 .intro j s;rw[aJ6];simp+decide only[VB,lk,bU,↓ky,et]
 .intro j s M;have u:((j:U)<(D.hE.length:U))=True:=mU aa;rw[Rs];cases F:Ae D ns i j;.trivial
  rename_i A;have y:=J i j A F;cases A;.simp+decide only[Ie,VB,lk,bU,↓ky,eF,et,Ud,Zq,abo,agx,u,iA Om,Jd,Hs,y,nZ (aa:j<=4611686018427387904)]
  refine⟨?_,pO⟩;simp+decide only[Ie,VB,lk,bU,↓ky,eF,et,Ud,Zq,abo,an6,u,iA Om,Jd,Hs,y]
 .intro s;refine⟨?_,pO⟩;simp+decide only[Ie,VB,lk,bU,↓ky,eF,et,Ud,uN]
def Db(D:FV)(ns:aK)(Rqq:jH)(i:R)(_:Unit):gw (Unit⊕jH):=match D.pE[i]?with
 |O e=>if max e.fr e.to≠(ns.length:U)- 1 then O (.inl ())else(match AF D ns i D.hE.length 0 with|O V=>O (.inl ())|O W=>O (.inr Rqq)|X=>X)
 |X=>X
theorem acb{D:FV}:∀{k i:R} {b:mi},zo D ns k i=O b->jC (Db D ns Rqq) k i ()=O (if b then .inl ()else .inr Rqq)
 |0,i,b,h=>by cases h;rfl
 |k+1,i,b,h=>by
  simp only[zo]at h;cases u:D.pE[i]?;.simp only[u]at h;cases h
  rename_i e;simp only[u]at h;by_cases h1:max e.fr e.to≠(ns.length:U)- 1
  .rw[aY h1]at h;have y:Db D ns Rqq i ()=O (.inl ()):=by grind[Db]
   simp only[jC,y];exact acb h
  rw[aR h1]at h;cases h2:AF D ns i D.hE.length 0;.simp only[h2]at h;cases h
  rename_i A;simp only[h2]at h;cases A;.grind[Db,jC]
  simp only[jC,(show Db D ns Rqq i ()=O (.inl ()) by grind[Db])];exact acb h
def abQ{a b:U}:Fx (.sc (.int .i64 a)) (.sc (.int .i64 b))=O (eI (max a b)):=by
 show O _=_
 congr 3
 omega
def aEM{aae:eE}{D:FV}(hc:hcF aae D ns es o){S:gC}(Y:D.hE.length<=1000000)(N:D.pE.length<=1000000)(M:ns.length<=1000000)(h:zo D ns D.pE.length 0=O b):
 jd af gl aae RH [.rp (D.c ns es o) 0] S=O (eB b,S,W):=by
 have hL:=uh (P:=af) (gl:=gl) (aae:=aae) (n:=49) (len:=D.pE.length) (C:=UC) (Bqq:=ED) (f:=Db D ns (.ret,[(2,eB W)],(ez [] S)))
  (TT:=λ i _=>[(0,.rp (D.c ns es o) 0),(3,eI ((ns.length:U)- 1)),(18,gS D.pE),(19,eI (D.pE.length:U)),(20,eI (i:U))]) (ST:=λ _=>(ez [] S))
  (Xqq:=λ _=>(.exit 0,[(0,.rp (D.c ns es o) 0),(3,eI ((ns.length:U)- 1)),(18,gS D.pE),(19,eI (D.pE.length:U)),(20,eI (D.pE.length:U)),(21,eB W)],(ez [] S))) ?_ ?_ ?_ D.pE.length 0 ()
 .have y:fU af .sub 3 (eI (ns.length:U)) (eI 1)=O (eI ((ns.length:U)- 1)):=by show(match cY af .sub 3 (.int .i64 (ns.length:U)) (.int .i64 1)with|some r=>lZ r|none=>X)=_;rw[SF xT];rfl
  have u:=hL _ aa (acb h);have u:cO af gl aae 49 UC [(0,.rp (D.c ns es o) 0),(3,eI ((ns.length:U)- 1)),(18,gS D.pE),(19,eI (D.pE.length:U)),(20,eI 0)] (ez [] S)=_:=u;simp only[FV.c]at u;cases b;.simp+decide only[jd,RH,VB,lk,bU,↓ky,eF,et,FV.c,Ze,Y9,acj,XU,br,y,u]
  simp+decide only[jd,RH,VB,lk,bU,↓ky,eF,et,FV.c,Ze,Y9,acj,XU,br,y,u]
 .intro i s;rw[aD2];simp+decide only[VB,lk,bU,↓ky,eF,et]
 .intro i s K;have A:((i:U)<(D.pE.length:U))=True:=mU aa;simp only[Db,eg K];have J:(D.pE.map Ed.c)[i]? =O [eI D.pE[i].ty,eI D.pE[i].fr,eI D.pE[i].to]:=by rw[mu,eg K];rfl
  by_cases h1:max D.pE[i].fr D.pE[i].to=(ns.length:U)- 1
  .rw[aR (λ h=>h h1)];have e1:(max D.pE[i].fr D.pE[i].to=(ns.length:U)- 1)=True:=mU h1;cases Z:AF D ns i D.hE.length 0;.trivial
   rename_i b';have F:=atZ (gl:=gl) hc (m:=(ns.length:U)- 1) (a:=gS D.pE) (c:=eI (D.pE.length:U)) (S:=S) Y Z;simp only[FV.c]at F;cases b';.refine⟨?_,pO⟩;simp+decide only[ED,VB,lk,bU,↓ky,eF,et,FV.c,NF,QU,PK,aa2,aa5,WR,aee,br,A,fc J,VN,abQ,e1,F]
   simp+decide only[ED,VB,lk,bU,↓ky,eF,et,FV.c,NF,QU,PK,aa2,aa5,WR,X8,br,A,fc J,VN,abQ,e1,F,nZ (aa:i<=4611686018427387904)]
  rw[aY h1];have e1:(max D.pE[i].fr D.pE[i].to=(ns.length:U)- 1)=False:=tQ h1;simp+decide only[ED,VB,lk,bU,↓ky,eF,et,FV.c,NF,QU,PK,X8,A,fc J,VN,abQ,e1,nZ (aa:i<=4611686018427387904)]
 .intro s;refine⟨?_,pO⟩;simp+decide only[ED,VB,lk,bU,↓ky,eF,et,NF,uN]
def axK(F:C5 base){D:FV}(A:D.hE.length<=1000000)(y:D.pE.length<=1000000)(u:ns.length<=1000000)(h:zo D ns D.pE.length 0=O b)(S:gC):VW gl base 347 [.rp (D.c ns es o) 0] S=O (eB b,S,W):=Lm aBZ Q Q (aEM (λ i j b h S=>UZ F h S) A y u h)
end
end
end Go.Abs
