/- Relations, Causes; the law on the abstract machine. -/
import Derived.Test.YtkencjbbibdamaaGreatDoorH
import Derived.Test.YtkencjbbibdamaaGreatDoorI
import Derived.Test.YtkencjbbibdamaaGreatDoorK
import Derived.Test.YtkencjbbibdamaaGreatDoorO
set_option linter.all false
set_option maxRecDepth 100000
set_option maxHeartbeats 8000000
namespace Go.Abs
noncomputable section
open Go Go.Proofs
variable{I:Im}{K:ah}{N:aT}{R:List RU}{S:List bI}{a b:Option Nat}{args cs l:List aa}{Z7:aW}{d e i k m n ng o off v:Nat}{g:Nat->Nat->Nat}{lE:List Ed}{lN:List Int}{out:List (List Int)}{r:aa×ah}{s:aa}{t:TypeId}{te y:aS}
section
variable{gl:aM}{base:eH}
def aDk:cy af 101=true:=by kernel_rfl
def aDw(Y:NB N){S:List bI}{p q A G:Nat}{c:Option Nat}(M:b7 S d k=some (N.c a b c))(J:b7 S p q=some [.ptr d k 0]){e f:Int}(L:b7 S A G=some [eI e]){z:Bool}(h:xd N e f=some z):
 VW gl base 101 [eI f,.ptr p q 0,.ptr A G 0] S=some (eB z,S,false):=by
 have P:(d=S.length)=False:=b6 (by have:=cY M;omega);have F:(p=S.length)=False:=b6 (by have:=cY J;omega);have D:(A=S.length)=False:=b6 (by have:=cY L;omega);have Z:=asi (gl:=gl) (base:=base) (S:=[]::S) Y (dm M) h;refine jG aD0 rfl rfl ?_;simp+decide only[bz,aBP,VB,lk,aB,↓reduceIte,Nat.reduceBEq,Nat.reduceAdd,aCq,aBX,P,F,D,J,L,aI ajh,Z]
def anM(N:aT)(s:BitVec 64)(i:Int):Option Bool:=jy (xd N i) (dH s)
def aiv(N:aT)(e f:Nat):Option Bool:=match ahead N e f with
 |some a=>(match(if a=true then ahead N f e else some false)with
  |some true=>some true
  |some false=>(match N.C[e]?,N.C[f]?with
   |some h,some cf=>jy (anM N (cf|||1#64<<<f)) (dH (h|||1#64<<<e))
   |_,_=>none)
  |none=>none)
 |none=>none
def apY:cy af 54=true:=by kernel_rfl
def cfL(hT:nD gl base)(hb:NB N){S:List bI}{c:Option Nat}(G:b7 S d k=some (N.c a b c)){f:Nat}{cf:BitVec 64}(hf:N.C[f]? =some cf){l:List Int}(hl:l.length<=64){z:Bool}(h:jy (anM N (cf|||1#64<<<f)) l=some z):
 aJ af gl (VW gl base) 49 aq1 [(2,eI f),(3,.ptr S.length 3 0),(29,aD l),(30,eI l.length),(31,eI 0)] (aH [(3,[.ptr d k 0])] S)=if z=true then some (.ret,[(6,eB true)],(aH [] S))else some (.exit 0,[(2,eI f),(3,.ptr S.length 3 0),(29,aD l),(30,eI l.length),(31,eI l.length),(32,eB false)],(aH [(3,[.ptr d k 0])] S)):=by
 have ab:=cY G;have Z:(d=S.length)=False:=b6 (by omega);have gb:(d==S.length)=false:=by simp;omega
 have F:(S.length==d)=false:=by simp;omega
 have D:(N.C.map λ x=>[eW x])[f]? =some [eW cf]:=by rw[bM,hf];rfl
 have hL:=tP (P:=af) (gl:=gl) (Z7:=VW gl base) (n:=49) (len:=l.length) (C:=aq1) (B:=alW) (f:=lL (anM N (cf|||1#64<<<f)) (λ _=>(.ret,[(6,eB true)],(aH [] S))) l)
  (TT:=λ i _=>[(2,eI f),(3,.ptr S.length 3 0),(29,aD l),(30,eI l.length),(31,eI i)]) (ST:=λ _=>(aH [(3,[.ptr d k 0])] S))
  (X:=λ _=>(.exit 0,[(2,eI f),(3,.ptr S.length 3 0),(29,aD l),(30,eI l.length),(31,eI l.length),(32,eB false)],(aH [(3,[.ptr d k 0])] S))) ?_ ?_ ?_ l.length 0 ()
 .obtain⟨y,hy,A⟩:=vT (i:=0) h;rcases xe (l:=l) (R:=λ _=>(.ret,[(6,eB true)],(aH [] S))) l.length 0 y (by omega) hy with⟨rfl,J⟩|⟨j,rfl,J⟩
  .obtain rfl:z=false:=by rw[<-A];rfl
   exact hL _ (iX _) J
  obtain rfl:z=true:=by rw[<-A];simp
  exact hL _ (iX _) J
 .intro i s;rw[aC4];simp+decide only[VB,lk,aB,↓reduceIte,Nat.reduceBEq,Nat.reduceAdd]
 .intro i u hi;have q:((i:Int)<(l.length:Int))=True:=dw (by omega);have M:l[i]? =some l[i]:=cW hi;have Y:(l.map λ n=>[eI n])[i]? =some [eI l[i]]:=by rw[bM,M];rfl
  simp only[lL,M];cases h1:anM N (cf|||1#64<<<f) l[i];.trivial
  rename_i L;have hc:=Gx (gl:=gl) (base:=base) (g:=101) (cap:=[.ptr S.length 3 0,.ptr S.length 8 0]) (l:=dH (cf|||1#64<<<f)) (S:=[(3,[.ptr d k 0]),(8,[eI l[i]])]::S) (by have:=Lg (s:=cf|||1#64<<<f);omega) aDk rfl rfl (λ _=>rfl) (λ u z _ hz=>aDw hb (dm (dm (dm G))) (dm (dm (by rw[tA,ao rfl];rfl))) (dm (dm (by rw[tA,ao rfl];rfl))) hz) h1;cases L;.simp+decide only[alW,VB,lk,aB,↓reduceIte,Nat.reduceBEq,Nat.reduceAdd,aps,ayk,asV,aBS,q,aY Y,Z,gb,F,G,aT.c,aY D,ak0,afK,aI Gi,HR hT,aI zl,hc,gW (show i<=4611686018427387904 by omega)]
  refine⟨?_,λ h=>by cases h⟩;simp+decide only[alW,VB,lk,aB,↓reduceIte,Nat.reduceBEq,Nat.reduceAdd,aps,ayk,asV,aBz,q,aY Y,Z,gb,F,G,aT.c,aY D,ak0,afK,aI Gi,HR hT,aI zl,hc]
 .intro u;refine⟨?_,λ h=>by cases h⟩;simp+decide only[alW,VB,lk,aB,↓reduceIte,Nat.reduceBEq,Nat.reduceAdd,aps,jT]
def w82(hB:kK base)(J:nD gl base)(Y:NB N){S:List bI}{c:Option Nat}(A:b7 S d k=some (N.c a b c)){f:Nat}{z:Bool}(h:aiv N e f=some z):
 VW gl base 54 [.ptr d k 0,eI e,eI f] S=some (eB z,S,false):=by
 have ad:=cY A;have G:(d=S.length)=False:=b6 (by omega);have M:(d==S.length)=false:=by simp;omega
 have D:(S.length==d)=false:=by simp;omega
 refine jG m82 rfl rfl ?_;unfold aiv at h;split at h
 .rename_i x hx;have L:=aiU (gl:=gl) (base:=base) (S:=[(3,[.ptr d k 0])]::S) hB Y (dm A) hx;split at h
  .rename_i P;cases h;cases x;.cases P
   have Z:=aiU (gl:=gl) (base:=base) (S:=[(3,[.ptr d k 0])]::S) hB Y (dm A) P;simp+decide only[bz,alN,VB,lk,aB,↓reduceIte,Nat.reduceBEq,Nat.reduceAdd,ams,alr,aBy,M,G,aI agA,L,Z]
  .rename_i P;split at h
   .rename_i ce cf ac ab;have q:(N.C.map λ x=>[eW x])[e]? =some [eW ce]:=by rw[bM,ac];rfl
    have F:=cfL (S:=S) J Y A ab Lg h;cases x
    .cases z;.rw[aj (by decide)]at F;simp+decide only[bz,alN,VB,lk,aB,↓reduceIte,Nat.reduceBEq,Nat.reduceAdd,ams,alr,aow,auD,M,D,G,aI agA,L,A,aT.c,aY q,ak0,afK,aI Gi,HR J,aF,F]
     rw[ao rfl]at F;simp+decide only[bz,alN,VB,lk,aB,↓reduceIte,Nat.reduceBEq,Nat.reduceAdd,ams,alr,aow,M,D,G,aI agA,L,A,aT.c,aY q,ak0,afK,aI Gi,HR J,aF,F]
    have Z:=aiU (gl:=gl) (base:=base) (S:=[(3,[.ptr d k 0])]::S) hB Y (dm A) P;cases z;.rw[aj (by decide)]at F;simp+decide only[bz,alN,VB,lk,aB,↓reduceIte,Nat.reduceBEq,Nat.reduceAdd,ams,alr,aow,auD,M,D,G,aI agA,L,Z,A,aT.c,aY q,ak0,afK,aI Gi,HR J,aF,F]
    rw[ao rfl]at F;simp+decide only[bz,alN,VB,lk,aB,↓reduceIte,Nat.reduceBEq,Nat.reduceAdd,ams,alr,aow,M,D,G,aI agA,L,Z,A,aT.c,aY q,ak0,afK,aI Gi,HR J,aF,F]
   cases h
  cases h
 .cases h
end
section
variable{gl:aM}{base:eH}
def ama{a:BitVec 64}:dn af .and t (eW a) (.sc (.int .u64 1))=some (eW (a&&&1#64)):=af9 (b:=1#64)
def ak2{s:BitVec 64}:(((s>>>i&&&1#64).toNat:Int)=1)=(rm s i=true):=by unfold rm;simp only[Ek]
def adz(N:aT)(e f:Nat):Option Nat:=
 if e=f then some 0 else match N.C[f]?,N.C[e]?with
 |some cf,some h=>if rm cf e=true then some 1 else if rm h f=true then some 2 else(match aiv N e f with
  |some true=>some 3
  |some false=>(match ahead N e f with
   |some true=>some 4
   |some false=>(match ahead N f e with
    |some true=>some 5
    |some false=>some 0
    |none=>none)
   |none=>none)
  |none=>none)
 |_,_=>none
def q39:cy af 24=true:=by kernel_rfl
def w39(Y:kK base)(hT:nD gl base)(P:NB N){c:Option Nat}(G:b7 S d k=some (N.c a b c)){f:Nat}(L:e<64)(Z:f<64){z:Nat}(h:adz N e f=some z):
 VW gl base 24 [.ptr d k 0,eI e,eI f] S=some (eI z,S,false):=by
 have ae:=cY G;have M:(d=S.length)=False:=b6 (by omega);refine jG m39 rfl rfl ?_;unfold adz at h;by_cases ab:e=f;.rw[ao ab]at h;cases h;have D:((e:Int)=(f:Int))=True:=dw (by omega);simp+decide only[bz,ah1,VB,lk,aB,↓reduceIte,Nat.reduceBEq,Nat.reduceAdd,aim,ahx,aBD,D];rfl
 .rw[aj ab]at h;have D:((e:Int)=(f:Int))=False:=b6 (by omega);split at h
  .rename_i cf ce ac ad;have q:(N.C.map λ x=>[eW x])[f]? =some [eW cf]:=by rw[bM,ac];rfl
   have A:(N.C.map λ x=>[eW x])[e]? =some [eW ce]:=by rw[bM,ad];rfl
   by_cases b1:rm cf e=true;.rw[ao b1]at h;cases h;simp+decide only[bz,ah1,VB,lk,aB,↓reduceIte,Nat.reduceBEq,Nat.reduceAdd,aim,ahx,akw,aCn,D,M,G,aT.c,aY q,at0 L,ama,ak2,b1];rfl
   rw[aj b1]at h;by_cases b2:rm ce f=true;.rw[ao b2]at h;cases h;simp+decide only[bz,ah1,VB,lk,aB,↓reduceIte,Nat.reduceBEq,Nat.reduceAdd,aim,ahx,akw,alv,aB3,D,M,G,aT.c,aY q,aY A,at0 L,at0 Z,ama,ak2,b1,b2];rfl
   rw[aj b2]at h;have up:=dm (F:=[]) G;split at h;.rename_i hc;cases h;have h1:=w82 (gl:=gl) Y hT P up hc;simp+decide only[bz,ah1,VB,lk,aB,↓reduceIte,Nat.reduceBEq,Nat.reduceAdd,aim,ahx,akw,alv,aoD,aCj,D,M,G,aT.c,aY q,aY A,at0 L,at0 Z,ama,ak2,b1,b2,aI apY,h1];rfl
   .rename_i hc;have h1:=w82 (gl:=gl) Y hT P up hc;split at h;.rename_i ha;cases h;have h2:=aiU (gl:=gl) Y P up ha;simp+decide only[bz,ah1,VB,lk,aB,↓reduceIte,Nat.reduceBEq,Nat.reduceAdd,aim,ahx,akw,alv,aoD,aqp,aBw,D,M,G,aT.c,aY q,aY A,at0 L,at0 Z,ama,ak2,b1,b2,aI apY,h1,aI agA,h2];rfl
    .rename_i ha;have h2:=aiU (gl:=gl) Y P up ha;split at h;.rename_i J;cases h;have h3:=aiU (gl:=gl) Y P up J;simp+decide only[bz,ah1,VB,lk,aB,↓reduceIte,Nat.reduceBEq,Nat.reduceAdd,aim,ahx,akw,alv,aoD,aqp,awH,aCc,D,M,G,aT.c,aY q,aY A,at0 L,at0 Z,ama,ak2,b1,b2,aI apY,h1,aI agA,h2,h3];rfl
     .rename_i J;cases h;have h3:=aiU (gl:=gl) Y P up J;simp+decide only[bz,ah1,VB,lk,aB,↓reduceIte,Nat.reduceBEq,Nat.reduceAdd,aim,ahx,akw,alv,aoD,aqp,awH,aAV,D,M,G,aT.c,aY q,aY A,at0 L,at0 Z,ama,ak2,b1,b2,aI apY,h1,aI agA,h2,h3];rfl
     cases h
    cases h
   cases h
  cases h
end
section
variable{gl:aM}{base:eH}
def ajI{h:Type}(g:Nat->h)(x:Nat)(s:List h):Option (List h⊕bZ):=if s.length<=1000 then some (.inl (s++[g x]))else none
def ay8{β:Type}{g:Nat->β}:∀{l:List Nat} {s:List β},s.length+l.length<=1000->bP (ajI g) l s=some (.inl (s++l.map g))
 |[],s,_=>by simp[bP]
 |x::l,s,h=>by simp only[cD]at h;simp only[bP,ajI,ao (show s.length<=1000 by omega)];rw[ay8 (by simp;omega)];simp
def apD{x:Nat}(h:(List.range n)[i]? =some x):x=i:=by have hi:=(mR.1 h).1;rw[aD2]at hi;rw[Et hi]at h;exact(dU h).symm
def aC5{sz:Nat}{z:List ae}:mM sz (List.replicate 0 z) []=some []:=rfl
abbrev aiI(o:aS)(e n:Nat)(r:List Int)(j:Nat):VT:=[(5,.ptr 0 5 0),(9,.ptr 0 9 0),(12,.sl o (some 1)),(13,eI e),(14,.sl (r.map λ n=>[eI n]) (some 1)),(34,eI n),(35,eI e),(41,eI n),(42,eI j)]
abbrev Zo(x y:aS)(N:aT):aq:=(aH [(5,[.sl x none,.sl y none]),(9,N.c none none none)] [])
def rlI(hB:kK base)(Z:nD gl base)(Y:NB N){n:Nat}(hn:n<=60)(he:e<n){g:Nat->Nat}(J:∀f,f<n->adz N e f=some (g f)){x o:aS}:
 aJ af gl (VW gl base) 59 aoI (aiI o e n [] 0) (Zo x y N)=some (.exit 2,aiI o e n ((List.range n).map λ f=>(g f:Int)) n++[(43,eB false)],Zo x y N):=by
 have hL:=pg (P:=af) (gl:=gl) (Z7:=VW gl base) (n:=59) (l:=List.range n) (C:=aoI) (B:=ang) (f:=ajI λ f=>(g f:Int))
  (TT:=λ i r=>aiI o e n r i) (ST:=λ _=>Zo x y N)
  (X:=λ r=>(.exit 2,aiI o e n r n++[(43,eB false)],Zo x y N)) ?_ ?_ ?_ [] _ (ay8 (by simp;omega))
 .exact hL
 .intro i s;rw[aDL];simp+decide only[VB,lk,aB,↓reduceIte,Nat.reduceBEq,Nat.reduceAdd,aiI,Zo]
 .intro i s f hi L;obtain rfl:=apD L;rw[aD2]at hi;have A:((f:Int)<(n:Int))=True:=dw (by omega);have q:=gW (P:=af) (t:=3) (show f<=4611686018427387904 by omega);have M:∀F,lk F 9=some (N.c none none none)->VW gl base 24 [.ptr 0 9 0,eI e,eI f] [F]=some (eI (g f),[F],false):=λ F hF=>w39 hB Z Y (d:=0) (k:=9) (by exact hF) (by omega) (by omega) (J f hi)
  by_cases G:s.length<=1000
  .have D:∀st,iG st 1 (.sl (s.map λ n=>[eI n]) (some 1)) (.sl [[eI (g f)]] (some 1))=some (.sl ((s++[(g f:Int)]).map λ n=>[eI n]) (some 1)):=λ st=>by rw[lZ (by simp only[aF,cD,dG];omega) rfl];simp
   simp only[ajI,ao G];simp+decide only[ang,VB,lk,aB,↓reduceIte,Nat.reduceBEq,Nat.reduceAdd,fD,fM,fO,ft,fo,eM,cm,dh,dC,dW,cM,je,aF,avK,aBA,aB4,aB9,aiI,Zo,A,aI q39,M,D,q,lk]
  simp only[ajI,aj G]
 .intro s;rw[aD2];refine⟨?_,λ h=>by cases h⟩;simp+decide only[ang,VB,lk,aB,↓reduceIte,Nat.reduceBEq,Nat.reduceAdd,fD,fM,fO,ft,fo,eM,cm,dh,dC,dW,cM,je,aF,avK,jT,aiI,Zo]
abbrev ahT(o:List (List Int))(n i:Nat):VT:=[(5,.ptr 0 5 0),(9,.ptr 0 9 0),(12,.sl (o.map λ r=>[aD r]) (some 1)),(34,eI n),(35,eI i)]
def rlO(hB:kK base)(hT:nD gl base)(Z:NB N){n:Nat}(M:n<=60)(Y:∀e f,e<n->f<n->adz N e f=some (g e f)){x y:aS}(L:y.length=n):
 aJ af gl (VW gl base) 59 amv (ahT [] n 0) (Zo x y N)=some (.exit 0,ahT ((List.range n).map λ e=>(List.range n).map λ f=>(g e f:Int)) n n++[(36,eB false)],Zo x y N):=by
 have hL:=pg (P:=af) (gl:=gl) (Z7:=VW gl base) (n:=59) (l:=List.range n) (C:=amv) (B:=aoX) (f:=ajI λ e=>(List.range n).map λ f=>(g e f:Int))
  (TT:=λ i o=>ahT o n i) (ST:=λ _=>Zo x y N)
  (X:=λ o=>(.exit 0,ahT o n n++[(36,eB false)],Zo x y N)) ?_ ?_ ?_ [] _ (ay8 (by simp;omega))
 .exact hL
 .intro i s;rw[aDo];simp+decide only[VB,lk,aB,↓reduceIte,Nat.reduceBEq,Nat.reduceAdd,ahT,Zo]
 .intro i s e hi F;obtain rfl:=apD F;rw[aD2]at hi;have D:((e:Int)<(n:Int))=True:=dw (by omega);have A:=gW (P:=af) (t:=3) (show e<=4611686018427387904 by omega);have q:=rlI (gl:=gl) hB hT Z M hi (λ f F=>Y e f hi F) (x:=x) (y:=y) (o:=s.map λ r=>[aD r]);simp only[aiI,Zo,Ny]at q;have q:aJ af gl (VW gl base) 59 aoI [(5,.ptr 0 5 0),(9,.ptr 0 9 0),(12,.sl (s.map λ r=>[aD r]) (some 1)),(13,eI e),(14,.sl [] (some 1)),(34,eI n),(35,eI e),(41,eI n),(42,eI 0)] _=_:=q;by_cases J:s.length<=1000
  .have G:∀st,iG st 1 (.sl (s.map λ r=>[aD r]) (some 1)) (.sl [[aD ((List.range n).map λ f=>(g e f:Int))]] (some 1))=some (.sl ((s++[(List.range n).map λ f=>(g e f:Int)]).map λ r=>[aD r]) (some 1)):=λ st=>by rw[lZ (by simp only[aF,cD,dG];omega) rfl];simp
   simp only[ajI,ao J];simp+decide only[aoX,VB,lk,aB,↓reduceIte,Nat.reduceBEq,Nat.reduceAdd,fD,fM,fO,ft,fo,eM,cm,dh,dC,dW,cM,je,aF,aC5,asN,aCe,aB2,aBn,aBY,aBs,ahT,Zo,D,q,G,A,L]
  simp only[ajI,aj J]
 .intro s;rw[aD2];refine⟨?_,λ h=>by cases h⟩;simp+decide only[aoX,VB,lk,aB,↓reduceIte,Nat.reduceBEq,Nat.reduceAdd,fD,fM,fO,ft,fo,eM,cm,dh,dC,dW,cM,je,aF,asN,jT,ahT,Zo]
noncomputable def avO:CC:=.seq (.seq (.ak axh (some ([5,9,12,34,35],[5,9]))) (.block 0 (amv))) (.seq (.ak auJ (some ([6,7],[]))) (.ret))
def aCO(J:kK base)(G:nD gl base)(F:NB N)(A:n<=60)(D:∀e f,e<n->f<n->adz N e f=some (g e f)){x:aS}(q:y.length=n):
 aJ af gl (VW gl base) 59 avO [(5,.ptr 0 5 0),(9,.ptr 0 9 0),(12,.sl [] (some 1))] (Zo x y N)=some (.ret,[(6,.sl (((List.range n).map λ e=>(List.range n).map λ f=>(g e f:Int)).map λ r=>[aD r]) none),(7,eI 0)],(aH [] [])):=by
 have h:=rlO (gl:=gl) J G F A D (x:=x) q;simp only[ahT,Zo,Ny]at h;have h:aJ af gl (VW gl base) 59 amv [(5,.ptr 0 5 0),(9,.ptr 0 9 0),(12,.sl [] (some 1)),(34,eI n),(35,eI 0)] _=_:=h;simp+decide only[avO,VB,lk,aB,↓reduceIte,Nat.reduceBEq,Nat.reduceAdd,fD,fM,fO,ft,fo,eM,cm,dh,dC,dW,cM,je,aF,axh,auJ,Zo,q,h]
end
section
variable{ng:Nat}{base:eH}{gl:aM}
noncomputable abbrev oK(gl:aM):Nat->cI:=ji af pol gl bset bV
noncomputable abbrev oF(ng:Nat):Nat->aW:=mE af ng (aV ng)
def atP(F:∀m,mz ng gl (oK gl m) (oF ng m)){f:FuncId}{args:List ae}{v:ae}(h:∀S,VW gl bV f args S=some (v,S,false))(Z:args.any ae.open=false)(L:args.map bD=args):
 ∃M,∀m,M<=m->∀{I:Im} {H:ah} {q:List aa},Good H->cu I H.objs.get->kJ ng gl (AN I)->bB ρ0 I args q->∃a H' A,oF ng m f q H=some (a,H')/\Good H'/\Fr none H H'/\cu I A/\cu A H'.objs.get/\(∀u r,A u=some r->u<H.next->I u=some r)/\aA ρ0 A v a:=by
 obtain⟨M,hM⟩:=RZ f args [] _ (h []);refine⟨M,λ m hm I H q g hI D P=>?_⟩;obtain⟨_,_,Y⟩:=(F m).plain f args [] v [] false (hM m hm) Z L;obtain⟨a,H',G',e1,J,G,e4,_⟩:=Y (AN I) H q (aCi g hI) D P;exact⟨a,H',G'.I,e1,J.gd,aCm g G,G.im,J.fJ,G.nJ,e4⟩
def aDm(ab:∀m,mz ng gl (oK gl m) (oF ng m)){f:FuncId}{F:cZ}{args l:List ae}{T2:VT}{bU:aq}(hm:db af (pol f) f=some F)(hs:args.map bD=args)
 (D:aJ af gl (VW gl bV) (args.length+(F.n-args.length)) F.c (lM 0 args) (dA [])=some (.ret,T2,bU)) (hl:jC bU T2 F.r=some l):
 ∃M,∀m,M<=m->∀{I:Im} {H:ah} {ws:List aa},Good H->cu I H.objs.get->kJ ng gl (AN I)->bB ρ0 I args ws->∃xs h G q,fI af ng (oF ng m) f ws H (jJ xs,G)/\Ok ng gl 0 q T2 h bU G/\cw 0 (AN I) (dA []) H q bU G (TW 0 bU.w) tZ/\bB (cut (0+1) q.ρ) q.I l xs:=by
 obtain⟨fn,c,h1,h2,h3,h4,h5⟩:=WW hm;rw[<-JI h3]at D;obtain⟨k,hk⟩:=FF.1 D;obtain⟨m0,h0⟩:=OD RZ _ _ _ _ _ hk;refine⟨m0,λ m Y I H ws g hI Z hr=>?_⟩;have J:bB (cut 0 (AN I).ρ) (AN I).I args ws:=xR (λ d k u e=>by cases e) (cu.refl _) _ _ hr;have L:Ok ng gl 0 (AN I) (lM 0 args) (fH ws 0 .nil) (dA []) H:=⟨aCi g hI,Xd J hs,rfl,Z⟩;obtain⟨_,h,G,q,e1,e2,e3⟩:=OH (ab m) k c L (h0 m k Y (be _));obtain⟨xs,r1,r2,_⟩:=GZ (P:=af) e2.bN e2.tmp (rs:=fn.results.toList) (l:=l) (by rw[Hd h5];exact hl);have A:ws.length=args.length:=pz hr;exact⟨xs,h,G,q,⟨fn,c,k,.ret,h,xs,h1,h2,by rw[A,h4];exact e1,λ id e=>(by cases e),r1,rfl⟩,e2,e3,r2⟩
def aC6{f:FuncId}(q:bset f=false){H:ah}(h:fI af ng (oF ng m) f args H r):oF ng (m+1) f args H=some r:=by refine IG ?_ h;unfold aV;rw[aj (by rw[q];simp)]
def aDx(hB:kK base)(hT:nD gl base)(q:Oa base){tn te:aS}{lN:List Int}{lE:List Ed}{m:List El}(hm:∀y∈m,y.ev≠-1){vV:List Oc}(hE:(fc lN lE++m).length<=200)(hV:vV.length<=30)
 (hG:∀S,VW gl base 39 [kv lN lE] S=some (eI 0,S,false)) (hP:∀S,VW gl base 40 [iK tn te,kv lN lE] S=some (eB true,S,false)) {M:aT} (Z:bP (r8 (fc lN lE++m)) vV ⟨R,fc lN lE,[],[]⟩=some (.inl M)) (hM:M.E=fc lN lE++m):
 ∃w,aJ af gl (VW gl base) 125 azc.c [(0,iK tn te),(1,ll R),(2,o9 (fc lN lE++m) vV)] (aH [] [])=some (.ret,[(6,.ptr 0 46 0),(7,.ptr 0 7 0),(8,eB true)],{w:=w,cur:=[(7,[aD lN,dY lE]),(46,M.c (some 5) (some 3) (some 1))],up:=[]}):=by
 have h:(fc lN lE).length=lN.length+lE.length:=VL;have ab:(fc lN lE++m).length=lN.length+lE.length+m.length:=by rw[dM,h]
 obtain⟨w',Y⟩:=Il (g:=λ _ _=>true) (w:=false) Z;have A:=aoh (gl:=gl) (lN:=lN) (lE:=lE) hB hT (by omega) (by omega) Y;have G:=λ S=>w42 (gl:=gl) (base:=base) (vV:=vV) (tn:=tn) (te:=te) hm (by omega) (by omega) hG hP (S:=S)
 have D:nf (some 5) false (.sl ((fc lN lE++m).map El.c) none) none (some (.sc (.int .i64 ((lN.length+lE.length:Nat):Int))))=some (.sl ((fc lN lE).map El.c) none):=by rw[EU (by rw[aF];omega) Mo,<-BG,<-h,aiP]
 have F:∀S,VW gl base 51 [.sl ((fc lN lE).map El.c) none] S=some (iP (fc lN lE),S,false):=λ S=>wU q.1 (q.2 _ (by omega)) rfl
 have P:(((fc lN lE++m).length:Int)>200)=False:=b6 (by omega);have L:((vV.length:Int)>30)=False:=b6 (by omega);have J:((M.E.length:Int)=((fc lN lE++m).length:Int))=True:=dw (by rw[hM]);simp only[yG,yq,aT.c,Ny]at A;have A:aJ af gl (VW gl base) 125 HF [(5,.ptr 0 5 0),(7,.ptr 0 7 0),(9,.ptr 0 9 0),(12,.ptr 0 46 0),(48,.sl (vV.map Oc.c) none),(49,eI vV.length),(50,eI 0)] _=_:=A;refine⟨w',?_⟩;simp+decide only[azc,VB,lk,aB,↓reduceIte,Nat.reduceBEq,Nat.reduceAdd,Ww,afQ,ZJ,agS,Yu,Zy,WC,aF,P,L,J,GM,GA,U3,aI q42,G,D,aI q43,F,uC,uu,uR,uy,ft,fo,eM,cm,dh,dC,dW,cM,A];rfl
end
section
variable{ls:List (List Int)}
variable{N:aT}
theorem aDU{l:List Int}{x:Int}:fW l x=true↔x∈l:=by unfold fW;simp[NA]
theorem aCJ{e f:Int}:xd N e f=xd N f e:=by unfold xd;grind[df,qW,List.any_eq_true,aDU]
def auW{α:Type}{p:α->Option Bool}{q:α->Bool}:∀{l:List α},(∀x∈l,p x=some (q x))->jy p l=some (l.any q)
 |[],_=>rfl
 |x::l,h=>by
  simp only[jy,h x (cS ..),xA];cases q x;.simpa using auW λ y A=>h y (cz _ A)
  rfl
def akW(N:aT)(i k:Int):Bool:=(xd N i k).getD false
theorem aDz(h:jV N){e f:Int}(A:0<=e/\e<N.V.length)(q:0<=f/\f<N.V.length):xd N e f=some (akW N e f):=by grind[ap4,akW]
theorem aCX(h:jV N){a b:BitVec 64}(D:BB a N.V.length)(A:BB b N.V.length):jy (anM N b) (dH a)=some ((dH a).any λ i=>(dH b).any λ k=>akW N i k):=auW λ _ hi=>auW λ _ q=>aDz h (LI D hi) (LI A q)
theorem aDh{a b:List Int}:(a.any λ i=>b.any λ k=>akW N i k)=b.any λ i=>a.any λ k=>akW N i k:=by grind[List.any_eq_true,akW,aCJ]
def aqk(h:jV N)(q:e<N.V.length):∃c,N.C[e]? =some c/\BB (c|||1#64<<<e) N.V.length:=by
 have:e<N.C.length:=by rw[h.cv];exact q
 exact⟨_,cW this,(h.ca _ (xC this)).or (BB.one q)⟩
theorem aCs(L:jV N){f:Nat}{x y:Bool}(A:ahead N e f=some x)(q:ahead N f e=some y){h cf:BitVec 64}(F:N.C[e]? =some h)(D:N.C[f]? =some cf)(J:BB (h|||1#64<<<e) N.V.length)(G:BB (cf|||1#64<<<f) N.V.length):
 aiv N e f=some ((x&&y)||(dH (h|||1#64<<<e)).any λ i=>(dH (cf|||1#64<<<f)).any λ k=>akW N i k):=by
 unfold aiv;rw[A,q,F,D];grind[aCX,reduceCtorEq]
def aCV(h:jV N){e f:Nat}(M:e<N.V.length)(L:f<N.V.length):∃z,aiv N e f=some z/\aiv N f e=some z:=by obtain⟨x,F⟩:=akT h (e:=e) (f:=f) (by omega) (by omega);obtain⟨y,D⟩:=akT h (e:=f) (f:=e) (by omega) (by omega);obtain⟨P,J,A⟩:=aqk h M;obtain⟨cf,G,q⟩:=aqk h L;refine⟨_,aCs h F D J G A q,?_⟩;rw[aCs h D F G J q A,aDh,Bool.and_comm]
theorem atq{s:BitVec 64}:rm s i=s.toNat.testBit i:=by grind[rm,BitVec.toNat_and,BitVec.toNat_ushiftRight,Nat.shiftRight_eq_div_pow]
def apm(N:aT):Prop:=∀k c,N.C[k]? =some c->∃x,N.V[k]? =some x/\sq N (gO x)=some c/\BB c k
theorem nA.ca{E0:List El}(h:nA R E0 N):N.C.length=N.V.length/\apm N:=by
 induction h with
 |nil=>exact⟨rfl,λ k c h=>by cases h⟩
 | @add N x l s _ J G _ _ _ _ Y _ F=>
  obtain⟨A,q⟩:=F;refine⟨by show(N.C++[s]).length=(N.V++[x]).length;simp[A],λ k c h=>?_⟩;have h:(N.C++[s])[k]? =some c:=h;show∃y,(N.V++[x])[k]? =some y/\_;by_cases L:k<N.C.length;.rw[xp L]at h;obtain⟨y,P,M,h3⟩:=q k c h;grind[List.getElem?_append_left,amw,iD.add]
  have D:k=N.C.length:=by grind[List.getElem?_eq_some_iff]
  subst D;rw[xo (be _)]at h;simp at h;subst h;obtain⟨s',P,M⟩:=Iq J G.us;grind[List.getElem?_append_right,amw,iD.add]
def aq6(N:aT)(i:Nat)(u:Int):Prop:=∃y,df N.E u=some y/\0<=y.ev/\(i=y.ev.toNat\/∃c,df N.C y.ev=some c/\c.toNat.testBit i=true)
theorem ayH(J:∀y∈N.E,y.ev<64):∀{l:List Int} {o r:BitVec 64},bP (Ag N) l o=some (.inl r)->(r.toNat.testBit i=true↔o.toNat.testBit i=true\/∃u∈l,aq6 N i u)
 |[],o,r,h=>by cases h;simp
 |u::l,o,r,h=>by
  simp only[bP]at h;cases q:Ag N u o;.rw[q]at h;cases h
  rename_i z;rw[q]at h;cases z
  .rename_i Y;rw[ayH J h];unfold Ag at q;cases D:df N.E u;.rw[D]at q;cases q
   rename_i y;rw[D]at q;simp only at q;by_cases h0:0<=y.ev
   .rw[ao h0]at q;cases G:df N.C y.ev;.rw[G]at q;cases q
    rename_i c;rw[G]at q;cases q;have M:=J y (ni D)
    have A:(1#64<<<y.ev.toNat).toNat.testBit i=true↔i=y.ev.toNat:=by
     have e:(1#64<<<y.ev.toNat).toNat=2^y.ev.toNat:=by rw[aBa,Nat.shiftLeft_eq];have L:(1#64).toNat=1:=rfl;rw[L,Nat.one_mul];exact aD9 (Nat.pow_lt_pow_right (by omega) (by omega))
     grind
    rw[aEd,aEd,aEe,aEe,nZ,nZ,A];have F:aq6 N i u↔i=y.ev.toNat\/c.toNat.testBit i=true:=by unfold aq6;rw[D];simp[G,h0]
    grind
   rw[aj h0]at q;cases q
   have F:¬aq6 N i u:=by
    rintro⟨P,L,Z,_⟩
    grind
   grind
  rename_i w;cases h
def azk(N:aT)(ls:List (List Int)):Prop:=ls.length=N.V.length/\∀k x,N.V[k]? =some x->∀i,i∈ls.getD k []↔∃u∈gO x,∃y,df N.E u=some y/\0<=y.ev/\(i=y.ev\/i∈ls.getD y.ev.toNat [])
theorem aBR(G:jV N)(P:apm N)(M:azk N ls):∀(m k:Nat),k<m->∀c,N.C[k]? =some c->∀i:Nat,((i:Int)∈ls.getD k []↔c.toNat.testBit i=true)
 |0,_,h,_,_,_=>by omega
 |m+1,k,hk,c,h,i=>by
  obtain⟨x,Y,A,hB⟩:=P k c h;rw[M.2 k x Y];have L:∀y∈N.E,y.ev<64:=λ y D=>by have:=G.el y D;have:=G.vl;omega
  unfold sq at A;split at A
  .rename_i r hr;cases A;have q:=λ i=>ayH L (i:=i) hr
   rw[q i];have z:(0#64).toNat.testBit i=false:=by simp
   simp only[z,rI,false_or];refine aD4 λ u=>aD3 λ Z=>aD4 λ y=>aD3 λ D=>aD3 λ h0=>?_
   have ac:y.ev.toNat<k:=hB _ ((q y.ev.toNat).2 (.inr ⟨u,Z,y,D,h0,.inl rfl⟩));have ab:k<N.C.length:=(mR.1 h).1;obtain⟨cy,J⟩:∃cy,N.C[y.ev.toNat]? =some cy:=⟨_,cW (show y.ev.toNat<N.C.length by omega)⟩;have F:df N.C y.ev=some cy:=by grind[Hl]
   have e1:((i:Int)=y.ev)=(i=y.ev.toNat):=propext (by omega);rw[aBR G P M m y.ev.toNat (by omega) _ J i,F,e1];grind[Option.some.injEq]
  cases A
def aek(x:Nat):Nat:=[0,2,1,3,5,4].getD x 0
theorem aDn(A:jV N)(F:apm N)(hl:azk N ls){e f:Nat}(M:e<N.V.length)(L:f<N.V.length):
 ∃x y,adz N e f=some x/\adz N f e=some y/\x<=5/\y=aek x/\(e=f->x=0)/\(x=1↔(e:Int)∈ls.getD f []):=by
 obtain⟨D,P,_⟩:=aqk A M;obtain⟨cf,G,_⟩:=aqk A L;have a1:rm D f=true->f<e:=λ h=>(F e D P).choose_spec.2.2 f (by rw[<-atq];exact h)
 have a2:rm cf e=true->e<f:=λ h=>(F f cf G).choose_spec.2.2 e (by rw[<-atq];exact h)
 have J:=aBR A F hl (f+1) f (by omega) cf G e;rw[<-atq]at J;unfold adz;by_cases q:e=f;.subst q;rw[ao rfl];refine⟨0,0,rfl,rfl,by omega,rfl,λ _=>rfl,?_⟩;grind
 .rw[aj q,aj (λ k=>q k.symm),P,G];simp only;obtain⟨z,Z,Y⟩:=aCV A M L;obtain⟨x,hx⟩:=akT A (e:=e) (f:=f) (by omega) (by omega);obtain⟨y,hy⟩:=akT A (e:=f) (f:=e) (by omega) (by omega);rw[Z,Y,hx,hy,J];by_cases b1:rm cf e=true
  .have b2:¬rm D f=true:=λ h=>by grind
   simp only[b1,b2,jz,qv];exact⟨1,2,rfl,rfl,by omega,rfl,λ h=>(q h).elim,by simp⟩
  by_cases b2:rm D f=true;.simp only[b1,b2,jz,qv];exact⟨2,1,rfl,rfl,by omega,rfl,λ h=>(q h).elim,by simp⟩
  simp only[b1,b2,qv];cases z
  .cases x
   .cases y;.exact⟨0,0,rfl,rfl,by omega,rfl,λ h=>(q h).elim,by simp⟩
    exact⟨5,4,rfl,rfl,by omega,rfl,λ h=>(q h).elim,by simp⟩
   cases y;.exact⟨4,5,rfl,rfl,by omega,rfl,λ h=>(q h).elim,by simp⟩
   grind[aiv]
  exact⟨3,3,rfl,rfl,by omega,rfl,λ h=>(q h).elim,by simp⟩
end
section
variable{nodes:List vx}
variable{ng:Nat}{gl:aM}
noncomputable def c4R:Code:=match Tryz.f4.body with
 |some (.seq _ (.seq _ (.seq _ (.seq _ c))))=>c
 |_=>.skip
def ala:lU af (pol 4) c4R=some R4:=by kernel_rfl
def mr4:ud af Tryz.f4.results.toList=some F4.r:=by kernel_rfl
def Dh.done{tn:aS}(h:Dh nodes nodes.length tn):tn=nodes.map λ x=>vR (JF x):=by
 apply xr;intro i;rw[bM];cases q:nodes[i]?;.have:=List.getElem?_eq_none_iff.1 q;rw[ma (by rw[h.1];exact this)];rfl
 rename_i x;rw[h.2 i x q,ao (mR.1 q).1];rfl
theorem axI{a:zX}(h:TA a):Ge (RA a):=by obtain⟨G,F,h3,D,A,q,L⟩:=h;exact⟨_,_,_,_,rfl,G,F,h3,D,A,by rw[aF];exact q,λ x J=>by grind⟩
def ai1{h:List HH}(Z:1<=nodes.length)(Y:nodes.length<=6)(e5:h.length<=5)(J:∀i x,nodes[i]? =some x->SY i x)(L:∀e∈h,Tq nodes.length e):
 sh (nodes.map λ x=>vR (JF x)) (h.map NS):=by
 refine⟨by rw[aF];exact Z,⟨by rw[aF];exact Y,λ i e q=>?_⟩,by rw[aF];exact e5,λ i e q=>?_⟩
 .rw[bM]at q;cases A:nodes[i]?;.rw[A]at q;cases q
  rename_i x;rw[A]at q;cases q;obtain⟨G,F,h3,D,M⟩:=J i x A;exact⟨_,_,_,_,rfl,G,F,h3,by rw[aF];exact D,λ y hy=>by obtain⟨a,ha,rfl⟩:=eK.1 hy;exact axI (M a ha)⟩
 .rw[bM]at q;cases A:h[i]?;.rw[A]at q;cases q
  rename_i x;rw[A]at q;cases q;obtain⟨G,⟨F,h3⟩,⟨D,M⟩,P⟩:=L x (jm A);obtain⟨n,f,t,ol,oh,il,ih⟩:=x;simp only at G F h3 D M P;cases P;exact⟨n,f,t,0,-1,0,-1,rfl,G,⟨F,by rw[aF];omega⟩,⟨D,by rw[aF];omega⟩,by decide,by decide,by decide,by decide⟩
section
variable{I:Im}{H:ah}{zT zE:List (Int×Int)}{rl:List nI}{dN:List Int}{dE:List (Int×Int×Int)}{c1 c2 c3 c4 c5:aa}
theorem axx(bt:∀m,mz ng gl (ji af pol gl bset bV m) (mE af ng (aV ng) m))(hT:AE gl)(bn:kJ ng gl (AN I))(g:Good H)(hI:cu I H.objs.get)
 (pT:∀p∈zT,P8 p) (pE:∀p∈zE,P8 p) (hd:∀x∈rl,yS x) (hN:∀v∈dN,B8 v) (hE:∀p∈dE,vK p)
 (r1:RP I (.sl (zT.map lR) none) c1) (r2:RP I (.sl (zE.map lR) none) c2) (r3:RP I (.sl (rl.map pF) none) c3) (r4:RP I (.sl (dN.map c8) none) c4) (r5:RP I (.sl (dE.map mr) none) c5)
 (hb:zT.length<=6/\zE.length<=6/\rl.length<=3/\dN.length<=4/\dE.length<=4):∃l,Rs gl l/\N8 ng I [.agg [c1,c2,c3,c4,c5]] H l:=by
 obtain⟨b1,b2,b3,b4,b5⟩:=hb;have a0:aw (fH [.agg [c1,c2,c3,c4,c5]] 0 .nil) 0=.agg [c1,c2,c3,c4,c5]:=rfl;have ac:(aa.agg [c1,c2,c3,c4,c5]).cells=[c1,c2,c3,c4,c5]:=rfl;have aK:(aa.agg [.ai,.ai]).cells=[.ai,.ai]:=rfl;have f0:=gH g [c1,c2,c3,c4,c5] true 1;have g0:=gD g [c1,c2,c3,c4,c5] true 1;have f1:=gH g0 [.ai,.ai] true 1;have g1:=gD g0 [.ai,.ai] true 1;have f2:=gH g1 [.ai,.ai] true 1;have g3:=gD g1 [.ai,.ai] true 1;have o1:=((ic H [c1,c2,c3,c4,c5] true 1).keep f1 (by simp)).keep f2 (by simp);have o2:=(ic (alloc H [c1,c2,c3,c4,c5] true 1) [.ai,.ai] true 1).keep f2 (by simp);have o4:=ic (alloc (alloc H [c1,c2,c3,c4,c5] true 1) [.ai,.ai] true 1) [.ai,.ai] true 1;have m1:=f2.aG _ _ (f1.aG _ _ (wN H [c1,c2,c3,c4,c5] true 1) (by simp)) (by simp);have m2:=f2.aG _ _ (wN (alloc H [c1,c2,c3,c4,c5] true 1) [.ai,.ai] true 1) (by simp);have m4:=wN (alloc (alloc H [c1,c2,c3,c4,c5] true 1) [.ai,.ai] true 1) [.ai,.ai] true 1;have aE:(alloc H [c1,c2,c3,c4,c5] true 1).next=H.next+1:=rfl
 have aD:(alloc (alloc H [c1,c2,c3,c4,c5] true 1) [.ai,.ai] true 1).next=H.next+2:=rfl
 generalize aX:alloc (alloc (alloc H [c1,c2,c3,c4,c5] true 1) [.ai,.ai] true 1) [.ai,.ai] true 1=H3 at*;have bG:H3.next=H.next+3:=by rw[<-aX];rfl
 have aY:Fr none H H3:=(f0.trans f1).trans f2;rw[aE]at o2 m2;rw[aD]at o4 m4;have bv:cu I H3.objs.get:=λ u r e=>aY.row u r (hI u r e) (by simp)
 have q5:=Dj o1;have n1:dD af 22 c1=some (.int .i64 (Int.ofNat zT.length)):=by grind[p9,Tryz.underlying22,List.length_map]
 have n2:dD af 22 c2=some (.int .i64 (Int.ofNat zE.length)):=by grind[p9,Tryz.underlying22,List.length_map]
 have n3:dD af 23 c3=some (.int .i64 (Int.ofNat rl.length)):=by grind[p9,Tryz.underlying23,List.length_map]
 have n4:dD af 24 c4=some (.int .i64 (Int.ofNat dN.length)):=by grind[p9,Tryz.underlying24,List.length_map]
 have n5:dD af 25 c5=some (.int .i64 (Int.ofNat dE.length)):=by grind[p9,Tryz.underlying25,List.length_map]
 have bC:=pU (cu.refl I) _ _ r1;obtain⟨⟨rv,K7⟩,F7,D,g7,v,w,nodes,an,fl,M7,ay,hL,hW,Z,bK,l1,l6,e5,bm,bs⟩:=auN (ng:=ng) (Z7:=λ _ _ _=>none) g3 bv pT pE r1 r2 (by omega) (by omega);simp only at D g7 ay hL hW;subst ay;have aJ:=hL.lt g7;have ov:=hL.one;obtain⟨aN,cs,hO,aA⟩:=hL;have ow:w.eh=true:=by grind[afI]
 have bE:=D.next
 obtain⟨I7,aR,aQ⟩:∃I7:Im,(∀u r,K7.objs.get u=some r->¬(r.aC<H3.next+2\/fl=some r.aC)->I7 u=some r)/\∀u r,I7 u=some r->K7.objs.get u=some r/\¬(r.aC<H3.next+2\/fl=some r.aC):=by
  refine⟨λ u=>match K7.objs.get u with|some r=>if r.aC<H3.next+2\/fl=some r.aC then none else some r|none=>none,λ u r e h=>?_,λ u r e=>?_⟩;.simp only[e,aj h]
  grind
 have a9:bR I7 4 (nodes.map vR) cs:=Pq as8 aR hO.1 aA;have bb:RP I7 (.sl (an.map NS) none) w:=aaw amr (S:=λ f=>f<M7) (λ u r e hn=>aR u r e (λ h=>by grind)) hW
 have ht:=ai1 l1 l6 e5 bm bs;obtain⟨T2,bU,bp,l,az,ak⟩:=alx (gl:=gl) hT (zT:=zT) (zE:=zE) (rl:=rl) (dN:=dN) (dE:=dE) ht b3 hd hN hE b4 b5;refine⟨_,ak,?_⟩;obtain⟨M,bu⟩:=afz bt ala bp;refine⟨max M 1,λ m hm=>?_⟩;obtain⟨k,rfl⟩:∃k,m=k+1:=⟨m- 1,by omega⟩;have c7:mE af ng (aV ng) (k+1) 9 [c1,c2] H3=some (.agg [v,w],K7):=aA5 F7;refine qn Tryz.func4 rfl ?_;show W af ng _ 169 _ _ _ _;refine aO (bW (H':=H3) (λ T=>aw T 1=.ptr H.next 0/\aw T 2=.ptr (H.next+1) 0/\aw T 4=.ptr (H.next+2) 0) ?_ ?_)
 ·(repeat ((first|apply bA (br rfl)|apply bO rfl rfl rfl);simp+decide only[AB,a0,ac,CK,TH,aK,aX,aE,aD];rfl))
  exact bF (by simp+decide only[AB,vI])
 rintro T1 ⟨t1,t2,t4⟩ k1
 have e1:decide (Int.ofNat zT.length>6)=false:=cX (by simp only[mS];omega);have e2:decide (Int.ofNat zE.length>6)=false:=cX (by simp only[mS];omega);have e3:decide (Int.ofNat rl.length>3)=false:=cX (by simp only[mS];omega);have e4:decide (Int.ofNat dN.length>4)=false:=cX (by simp only[mS];omega);have bw:decide (Int.ofNat dE.length>4)=false:=cX (by simp only[mS];omega);refine aO (aO (bW (H':=H3) (λ T=>aw T 46=.bool false) ?_ ?_))
 ·(repeat ((first|apply bA (br rfl)|apply bO rfl rfl rfl);simp+decide only[AB,t1,AT,zW,BM,Dr,Cg,pY q5.1,pY q5.2.1,CQ q5.2.2.1,CX q5.2.2.2.1,Cj q5.2.2.2.2,n1,n2,n3,n4,n5,e1,e2,e3,e4,bw];rfl))
  exact bF (by simp+decide only[AB])
 intro bL a8 k2;have a1:=(k2 1 rfl).trans t1;have a2:=(k2 2 rfl).trans t2;have a4:=(k2 4 rfl).trans t4;refine jZ (by rw[mc,a8]) (λ h=>by cases h) (λ _=>kH ?_);have f8:=gH g7 [.ai,.ai] true 1;have g8:=gD g7 [.ai,.ai] true 1;have o6:=ic K7 [.ai,.ai] true 1;have m6:=wN K7 [.ai,.ai] true 1;generalize aP:alloc K7 [.ai,.ai] true 1=K8 at*;have bD:K8.next=K7.next+1:=by rw[<-aP];rfl
 obtain⟨K9,z1,bd,f9,n9,g9⟩:=lO g8 o6 (off:=0) (new:=[v,w]) (by simp) (by simp[ov,ow]);have f9:Fr (some K7.next) K8 K9:=f9;have bi:K9.aG.get K7.next=some [K7.next]:=by rw[Nf z1];exact m6
 have s9:dJ af K8 31 (.ptr K7.next 0) (.agg [v,w])=some K9:=by rw[J3];exact z1
 refine aO (bW (H':=K9) (λ T=>aw T 6=.ptr K7.next 0) ?_ ?_)
 ·(repeat ((first|apply bA (br rfl)|apply bO rfl rfl rfl);simp+decide only[AB,a1,AT,zW,pY q5.1,pY q5.2.1,jS,oq,alQ,c7,CK,aK,aP,s9];rfl))
  exact bF (by simp+decide only[AB])
 intro T3 t6 k3;have d1:=(k3 1 rfl).trans a1;have d2:=(k3 2 rfl).trans a2;have d4:=(k3 4 rfl).trans a4;have L:fl≠some K7.next:=λ e=>by have:=aJ _ e;omega
 have aL:cj K9 4 nodes.length v cs fl:=cj.keep (cj.B7 hO f8) f9 (.inr L);have ax:jh K9 K7.next (qA K7.next v w):=bd;have bc:bq K9.objs.get K7.next (0+0) 1=some [v]:=ax.rd (by simp);refine aO (aO (bW (H':=K9) (λ T=>aw T 56=.int .i64 (Int.ofNat nodes.length)/\aw T 57=.int .i64 (Int.ofNat 0)) ?_ ?_))
 ·(repeat ((first|apply bA (br rfl)|apply bO rfl rfl rfl);simp+decide only[AB,t6,EM,Ez bc,aL.read.dD Tryz.underlying28];rfl))
  exact bF ⟨by simp+decide only[AB],by simp+decide only[AB];rfl⟩
 rintro T4 ⟨a7,a6⟩ k4
 have p1:=(k4 1 rfl).trans d1;have p2:=(k4 2 rfl).trans d2;have p4:=(k4 4 rfl).trans d4;have p6:=(k4 6 rfl).trans t6;refine ku (tj (λ mm T K=>∃(i:Nat) (ao:List aa) (tn:aS),mm+i=nodes.length/\cj K 4 nodes.length v ao fl/\bR I7 4 tn ao/\Dh nodes i tn/\Fr fl K9 K/\Good K/\aw T 1=.ptr H.next 0/\aw T 2=.ptr (H.next+1) 0/\aw T 4=.ptr (H.next+2) 0/\aw T 6=.ptr K7.next 0/\aw T 56=.int .i64 (Int.ofNat nodes.length)/\aw T 57=.int .i64 (Int.ofNat i)) ?_ nodes.length _ _ ⟨0,cs,nodes.map vR,by omega,aL,a9,⟨by rw[aF],λ i x hx=>by grind⟩,Fr.refl _ _,g9,p1,p2,p4,p6,a7,a6⟩)
 rintro mm T K ⟨i,ao,tn,bH,al,ba,ad,A,gk,u1,u2,u4,u6,ar,aq⟩
 have ag:=ax.keep A (λ e=>L e.symm);have av:bq K.objs.get K7.next (0+0) 1=some [v]:=ag.rd (by simp);refine aO (bW (H':=K) (λ T=>aw T 58=.bool (decide (Int.ofNat i<Int.ofNat nodes.length))) ?_ ?_)
 ·(repeat ((first|apply bA (br rfl)|apply bO rfl rfl rfl);simp+decide only[AB,ar,aq];rfl))
  exact bF (by simp+decide only[AB])
 intro T5 a5 k5;have v1:=(k5 1 rfl).trans u1;have v2:=(k5 2 rfl).trans u2;have v4:=(k5 4 rfl).trans u4;have v6:=(k5 6 rfl).trans u6;have a3:=(k5 56 rfl).trans ar;have ap:=(k5 57 rfl).trans aq;refine aO (jZ (by rw[mc,a5]) (λ Z=>kH ?_) (λ aI=>tX ?_))
 .have Z:i<nodes.length:=by grind
  have hx:nodes[i]? =some nodes[i]:=cW Z;have bk:tn[i]? =some (vR nodes[i]):=by rw[ad.2 i _ hx,aj (Nat.lt_irrefl _)]
  have aH:∀{t:TypeId},cV af .add t (.int .i64 (Int.ofNat i)) (.int .i64 1)=some (.int .i64 (Int.ofNat (i+1))):=wu (by omega);obtain⟨x,off,K',y1,y2,y3,y4,y5⟩:=cj.aAK (P:=af) gk al (i:=i) Z (k:=2) (by decide) (c:=.bool false) rfl Tryz.underlying28 EY rfl;have s4:dJ af K 4 (.ptr x (off+2)) (.bool false)=some K':=by rw[Fc];exact y2
  refine aO (ku (aO (bW (H':=K) (λ T=>aw T 7=.int .i64 (Int.ofNat i)) ?_ ?_)))
  ·(repeat ((first|apply bA (br rfl)|apply bO rfl rfl rfl);simp+decide only[AB,ap];rfl))
   exact bF (by simp+decide only[AB])
  intro T6 t7 k6;have x6:=(k6 6 rfl).trans v6;refine bW (H':=K') (λ T=>True) ?_ ?_
  ·(repeat ((first|apply bA (br rfl)|apply bO rfl rfl rfl);simp+decide only[AB,x6,t7,EM,Ez av,y1,ayx,s4];rfl))
   exact bF trivial
  intro T7 _ k7;have aZ:=(k7 57 rfl).trans ((k6 57 rfl).trans ap);refine bW (H':=K') (λ T=>aw T 57=.int .i64 (Int.ofNat (i+1))) ?_ ?_
  ·(repeat ((first|apply bA (br rfl)|apply bO rfl rfl rfl);simp+decide only[AB,aZ,aH];rfl))
   exact bF (by simp+decide only[AB])
  intro T8 au k8;have q:∀{t:Nat} {a:aa},aw T5 t=a->aw T6 t=aw T5 t->aw T7 t=aw T6 t->aw T8 t=aw T7 t->aw T8 t=a:=λ h a b c=>c.trans (b.trans (a.trans h))
  exact⟨mm- 1,by omega,i+1,_,_,by omega,y3,aaE (by simp[RP,lX]) (by decide) ba (by rw[al.1,ad.1]) bk,ad.step hx,A.trans y4,y5,q v1 (k6 1 rfl) (k7 1 rfl) (k8 1 rfl),q v2 (k6 2 rfl) (k7 2 rfl) (k8 2 rfl),q v4 (k6 4 rfl) (k7 4 rfl) (k8 4 rfl),q v6 (k6 6 rfl) (k7 6 rfl) (k8 6 rfl),q a3 (k6 56 rfl) (k7 56 rfl) (k8 56 rfl),au⟩
 .have aI:i=nodes.length:=by grind
  subst aI;obtain rfl:=ad.done;show W af ng _ 169 c4R _ _ _;have J:∀{u:Nat},u<=H.next+2->some u≠fl:=λ hu e=>by have:=aN _ e.symm;omega
  have bx:H.next+2<K7.next:=by omega
  have bg:=(((o1.keep D (by simp)).keep f8 (by simp)).keep f9 (λ e=>by grind)).keep A (J (show H.next<=H.next+2 by omega));have bf:=(((o2.keep D (by simp)).keep f8 (by simp)).keep f9 (λ e=>by grind)).keep A (J (show H.next+1<=H.next+2 by omega));have be:=(((o4.keep D (by simp)).keep f8 (by simp)).keep f9 (λ e=>by grind)).keep A (J (show H.next+2<=H.next+2 by omega));have mK:∀{u:Nat},u<=H.next+2->H3.aG.get u=some [u]->K.aG.get u=some [u]:=λ {u} hu h=>A.aG _ _ (f9.aG _ _ (f8.aG _ _ (D.aG _ _ h (by simp)) (by simp)) (λ e=>by grind)) (J hu)
  have bh:K.aG.get K7.next=some [K7.next]:=A.aG _ _ bi (λ e=>L e.symm);have ae:Fr none H K:=(((aY.trans D).trans f8).jE g f9 (λ f e=>by cases e;omega)).jE g A (λ f e=>by have:=aN f e;omega)
  obtain⟨I',am,aU⟩:∃I':Im,(∀u r,K.objs.get u=some r->¬(u=H.next\/u=H.next+1\/u=H.next+2\/u=K7.next)->I' u=some r)/\∀u r,I' u=some r->K.objs.get u=some r/\¬(u=H.next\/u=H.next+1\/u=H.next+2\/u=K7.next):=by
   refine⟨λ u=>if u=H.next\/u=H.next+1\/u=H.next+2\/u=K7.next then none else K.objs.get u,λ u r e h=>?_,λ u r e=>?_⟩;.simp only[aj h];exact e
   grind
  have Y:∀{u:Nat},(u=H.next\/u=H.next+1\/u=H.next+2\/u=K7.next)->I' u=none:=λ {u} hu=>by
   cases e:I' u;.rfl
   rename_i r;grind
  have F:cu I I':=λ u r e=>by have hu:=(g.wf u r (hI u r e)).1;exact am u r (ae.row u r (hI u r e) (by simp)) (by omega)
  have bj:cu I7 I':=λ u r e=>by
   obtain⟨w1,w2⟩:=aQ u r e;have hu:=g7.wf u r w1;refine am u r (A.row u r (f9.row u r (f8.row u r w1 (by simp)) (λ e=>by grind)) (λ e=>w2 (.inr e.symm))) ?_;intro bz;have ro:∀{x:Nat} {row:Row},jh H3 x row->row.aC<=H.next+2->u=x->False:=λ o hf e2=>by subst e2;have h2:=D.row _ _ o.row (by simp);grind
   grind
  have q1:RP I' (.sl (nodes.map λ x=>vR (JF x)) none) v:=by
   obtain⟨hl,⟨_,h0,_⟩|⟨x,r,rfl,o,bl,bJ,bB,bo⟩⟩:=al;.omega
   simp only[RP,aF];refine .inr ⟨x,0,none,r,4,rfl,am x r o.row ?_,.inr ⟨rfl,bl⟩,by omega,?_⟩
   .intro hx;have ro:∀{y:Nat} {row:Row},jh K y row->some row.aC≠fl->x=y->False:=λ o' hf e2=>by subst e2;have h2:=o'.row;rw[o.row]at h2;cases h2;exact hf bo.symm
    grind
   grind[AZ]
  have aB:=ok4 (ng:=ng) (gl:=gl) gk (bn.mono F) (λ u r e=>(aU u r e).1) bg bf be ag (mK (by omega) m1) (mK (by omega) m2) (mK (by omega) m4) bh (Y (.inl rfl)) (Y (.inr (.inl rfl))) (Y (.inr (.inr (.inl rfl)))) (Y (.inr (.inr (.inr rfl)))) (by omega) (by omega) (by omega) (by omega) (by omega) (by omega) (pU F _ _ r1) (pU F _ _ r2) (pU F _ _ r3) (pU F _ _ r4) (pU F _ _ r5) q1 (pU bj _ _ bb) v1 v2 v4 v6;refine bu (k+1) (by omega) aB λ T9 H9 G9 G ab=>?_
  obtain⟨xs,x1,x2,x3⟩:=GZ (P:=af) G.bN G.tmp (rs:=Tryz.f4.results.toList) (l:=l) (by rw[Hd mr4];exact az);refine⟨by simp,xs,x1,G.bN.gd,⟨λ u r e _=>?_,λ f mem e _=>?_,fX ae.next ab.next⟩,G9.I,xs,F.trans ab.im,G.bN.fJ,KS x2,rfl⟩
  .have hu:=(g.wf u r e).1;have hK:=ae.row u r e (by simp);rcases ab.rows u (gk.wf u r hK).1 with e'|⟨d,kk,_,_,e'⟩
   .rw[e'];exact hK
   grind[ρ4]
  have hK:=ae.aG f mem e (by simp);rw[ab.aG f (gk.mem f mem hK).1 rfl];exact hK
end
end
section
variable{most:Nat}
variable{ng:Nat}{gl:aM}{base:eH}
def aC0(ag:∀m,mz ng gl (oK gl m) (oF ng m))(hT:AE gl){tn te:aS}(L:St R (fc lN lE) most N)(hm:most<=30)
 (hG:∀S,VW gl bV 39 [kv lN lE] S=some (eI 0,S,false)) (hP:∀S,VW gl bV 40 [iK tn te,kv lN lE] S=some (eB true,S,false)):
 ∃M,∀m,M<=m->∀{I:Im} {H:ah} {Z:List aa},Good H->cu I H.objs.get->kJ ng gl (AN I)->bB ρ0 I [iK tn te,ll R,o9 N.E N.V] Z->∃u b1 b2 F Y,fI af ng (oF ng m) 23 Z H (.tuple [.ptr u 0,.agg [b1,b2],.bool true],F)/\Good F/\Fr none H F/\cu I Y/\cu Y F.objs.get/\(∀w r,Y w=some r->w<H.next->I w=some r)/\H.next<=u/\YU Y F ⟨9,N.c none none none,u⟩/\b1.eh=true/\b2.eh=true:=by
 obtain⟨m,D,ab⟩:=L.KZ.split;have J:=L.KZ.read (rQ _);have q:=L.len;have ai:=L.ml;rw[D]at J q;obtain⟨w,ae⟩:=aDx (gl:=gl) (base:=bV) (tn:=tn) (te:=te) aee (Yg hT) ajW (λ y hy e=>by have:=ab y hy;omega) q (by omega) hG hP J D;obtain⟨M,h⟩:=aDm ag (args:=[iK tn te,ll R,o9 (fc lN lE++m) N.V]) (l:=[.ptr 0 46 0,.agg [aD lN,dY lE],eB true]) m21 rfl ae rfl;rw[D];refine⟨M,λ k hk I H Z g hI ad J=>?_⟩;obtain⟨xs,aj,F,G2,f1,f2,P,f4⟩:=h k hk g hI ad J;obtain⟨c1,l1,rfl,h1,k1⟩:=cf.1 f4;obtain⟨c2,l2,rfl,h2,k2⟩:=cf.1 k1;obtain⟨c3,l3,rfl,h3,k3⟩:=cf.1 k2;simp only[bB]at k3;subst k3;simp only[aA]at h1 h2;obtain⟨_,bs,rfl,h4⟩:=h2;obtain⟨b1,b2,rfl,h5,h6⟩:=aw8 h4;obtain⟨u,G,rfl⟩:=h1;obtain⟨h3,_⟩:c3=.bool true/\_:=by simpa only[aA]using h3
 subst h3;obtain⟨u',r,A⟩:=f2.bN.box 0 46 _ rfl;have G:G2.ρ 0 46=some u:=GC _ _ _ _ _ G;obtain rfl:u=u':=by have:=A.ref;rw[G]at this;exact dU this
 refine⟨u,b1,b2,F,G2.I,f1,f2.bN.gd,aCm g P,P.im,f2.bN.fJ,P.nJ,?_,⟨⟨r,A.row,A.rw,A.sz,A.aC,?_⟩,A.mem,A.im⟩,vp h5 rfl,vp h6 rfl⟩
 .by_cases ac:u<H.next;.have:=(P.live 0 46 u rfl G ac).1;cases this
  omega
 .have hc:=A.cells;obtain⟨x1,y1,e1,r1,q1⟩:=cf.1 hc;obtain⟨x2,y2,rfl,r2,q2⟩:=cf.1 q1;obtain⟨x3,y3,rfl,r3,q3⟩:=cf.1 q2;obtain⟨x4,y4,rfl,r4,q4⟩:=cf.1 q3;simp only[bB]at q4;subst q4;simp only[aA]at r1 r2 r3 r4;exact⟨x1,_,e1,.inl r1,x2,_,rfl,.inl r2,x3,_,rfl,.inl r3,x4,_,rfl,.inl r4,rfl⟩
noncomputable def atu:CC:=.seq (.ak ay0 (some ([5,9,12],[5,9]))) avO
def aCR(J:kK base)(G:nD gl base)(F:NB N)(A:n<=60)(D:∀e f,e<n->f<n->adz N e f=some (g e f)){x:aS}(q:y.length=n):
 aJ af gl (VW gl base) 59 atu [(5,.ptr 0 5 0),(9,.ptr 0 9 0)] (Zo x y N)=some (.ret,[(6,.sl (((List.range n).map λ e=>(List.range n).map λ f=>(g e f:Int)).map λ r=>[aD r]) none),(7,eI 0)],(aH [] [])):=by
 have h:=aCO (gl:=gl) J G F A D (x:=x) q;simp only[Zo]at h;simp+decide only[atu,VB,lk,aB,↓reduceIte,Nat.reduceBEq,Nat.reduceAdd,fD,fM,fO,ft,fo,eM,cm,dh,dC,dW,cM,je,aF,ay0,Zo,h]
noncomputable def aBV:Code:=match Tryz.f6.body with
 |some (.seq _ (.seq _ (.seq _ (.seq _ c))))=>c
 |_=>.skip
def aCz:lU af (pol 6) aBV=some atu:=by kernel_rfl
def aDq:ig af 57=some (.agg [.ai,.ai]):=by kernel_rfl
def aDc{H:ah}{a b:aa}:dJ af H 57 (.ptr v off) (.agg [a,b])=gM H v off [a,b]:=by simp only[dJ,axg];rfl
def aDr{H:ah}:ir af Z7 22 l H=Z7 22 l H:=by simp only[ir,Tryz.func22];rfl
def aDF{H:ah}:ir af Z7 23 l H=Z7 23 l H:=by simp only[ir,Tryz.func23];rfl
def aDe:ud af Tryz.f6.results.toList=some F18.r:=by kernel_rfl
def aCf(p:Nat->Prop):∃I':Im,(∀u r,K.objs.get u=some r->¬p u->I' u=some r)/\(∀u r,I' u=some r->K.objs.get u=some r)/\∀u,p u->I' u=none:=by
 classical
 refine⟨λ u=>if p u then none else K.objs.get u,λ u r e h=>?_,λ u r e=>?_,λ u h=>?_⟩;.simp only[aj h];exact e
 .simp only at e;split at e;.cases e
  exact e
 simp only[ao h]
def aDs(ad:∀m,mz ng gl (oK gl m) (oF ng m))(hT:AE gl){tn:aS}(hS:St R (fc lN lE) most N)(hm:most<=30)
 (hV:∀S,VW gl bV 22 [iK tn te,ll R] S=some (eI 0,S,false)) (hG:∀S,VW gl bV 39 [kv lN lE] S=some (eI 0,S,false)) (hP:∀S,VW gl bV 40 [iK tn te,kv lN lE] S=some (eB true,S,false)) (hg:∀e f,e<N.V.length->f<N.V.length->adz N e f=some (g e f)):
 ∃M,∀m,M<=m->∀{I:Im} {H:ah} {ws:List aa},Good H->cu I H.objs.get->kJ ng gl (AN I)->bB ρ0 I [iK tn te,ll R,o9 N.E N.V] ws->∃s H' I',fI af ng (oF ng m) 6 ws H (.tuple [s,.int .i64 0],H')/\Good H'/\Fr none H H'/\cu I I'/\cu I' H'.objs.get/\(∀w r,I' w=some r->w<H.next->I w=some r)/\RP I' (.sl (((List.range N.V.length).map λ e=>(List.range N.V.length).map λ f=>(g e f:Int)).map λ r=>[aD r]) none) s:=by
 have a8:=hS.ml;obtain⟨M1,aV⟩:=aC0 ad hT hS hm hG hP;obtain⟨M2,aX⟩:=atP ad hV rfl rfl;obtain⟨M3,aY⟩:=afz ad aCz (aCR (gl:=gl) aee (Yg hT) hS.qB.nb (show N.V.length<=60 by omega) hg (x:=N.E.map El.c) (y:=N.V.map Oc.c) (by rw[aF]));refine⟨M1+M2+M3+1,λ k hk I H ws gd hI ac hr=>?_⟩;obtain⟨k,rfl⟩:∃j,k=j+1:=⟨k- 1,by omega⟩;obtain⟨x1,l1,rfl,r1,q1⟩:=cf.1 hr;obtain⟨s,l2,rfl,r2,q2⟩:=cf.1 q1;obtain⟨x3,l3,rfl,r3,q3⟩:=cf.1 q2;simp only[bB]at q3;subst q3;have ak:=r1;have aB:=r3;simp only[aA]at r1 r3;obtain⟨_,ba,rfl,i1⟩:=r1;obtain⟨_,a9,rfl,i3⟩:=r3;obtain⟨a1,a2,rfl,p1,p2⟩:=aw8 i1;obtain⟨b1,b2,rfl,p3,p4⟩:=aw8 i3;have o1:=vp p1 rfl;have o2:=vp p2 rfl;have o3:=vp p3 rfl;have o4:=vp p4 rfl;have a0:aw (fH [.agg [a1,a2],s,.agg [b1,b2]] 0 .nil) 0=.agg [a1,a2]:=rfl;have a5:aw (fH [.agg [a1,a2],s,.agg [b1,b2]] 0 .nil) 1=s:=rfl;have a4:aw (fH [.agg [a1,a2],s,.agg [b1,b2]] 0 .nil) 2=.agg [b1,b2]:=rfl;have aR:(aa.agg [a1,a2]).cells=[a1,a2]:=rfl;have aQ:(aa.agg [b1,b2]).cells=[b1,b2]:=rfl;have aP:(aa.agg [.ai,.ai]).cells=[.ai,.ai]:=rfl;have f0:=gH gd [a1,a2] true 1;have g0:=gD gd [a1,a2] true 1;have f1:=gH g0 [b1,b2] true 1;have g1:=gD g0 [b1,b2] true 1;have w3:=(ic H [a1,a2] true 1).keep f1 (by simp);have w5:=ic (alloc H [a1,a2] true 1) [b1,b2] true 1;have m5:=wN (alloc H [a1,a2] true 1) [b1,b2] true 1;have an:(alloc H [a1,a2] true 1).next=H.next+1:=rfl
 generalize aq:alloc (alloc H [a1,a2] true 1) [b1,b2] true 1=H1 at*;have hn:H1.next=H.next+2:=by rw[<-aq];rfl
 have Y:Fr none H H1:=f0.trans f1;rw[an]at w5 m5;have aU:cu I H1.objs.get:=λ u r e=>Y.row u r (hI u r e) (by simp)
 obtain⟨v,Hv,Iv,a3,gv,fv,lv,iv,kv,rv⟩:=aX (k+1) (by omega) g1 aU ac (cf.2 ⟨_,_,rfl,ak,cf.2 ⟨_,_,rfl,r2,jI.2 rfl⟩⟩);obtain⟨rfl,_⟩:v=.int .i64 0/\_:=by simpa only[aA]using rv
 obtain⟨u,e1,e2,H2,I2,ar,g2,f2,l2,i2,k2,hu,ae,aJ,aI⟩:=aV k (by omega) gv iv (ac.mono lv) (cf.2 ⟨_,_,rfl,wW (kt.refl _) lv _ _ ak,cf.2 ⟨_,_,rfl,wW (kt.refl _) lv _ _ r2,cf.2 ⟨_,_,rfl,wW (kt.refl _) lv _ _ aB,jI.2 rfl⟩⟩⟩);have aZ:=aC6 (ng:=ng) (show bset 23=false from rfl) ar;have aj:∀{K:ah},Fr none H1 K->bq K.objs.get H.next 0 2=some [a1,a2]:=λ fK=>(w3.keep fK (by simp)).rd (by simp)
 have az:∀{K:ah},Fr none H1 K->bq K.objs.get (H.next+1) 0 2=some [b1,b2]:=λ fK=>(w5.keep fK (by simp)).rd (by simp)
 have f3:=gH g2 [.ai,.ai] true 1;have g3:=gD g2 [.ai,.ai] true 1;have ay7:=ic H2 [.ai,.ai] true 1;generalize ap:alloc H2 [.ai,.ai] true 1=H3 at*;have a7:H3.next=H2.next+1:=by rw[<-ap];rfl
 obtain⟨H4,z1,z2,z3,z4,g4⟩:=lO g3 ay7 (off:=0) (new:=[e1,e2]) (by simp) (by simp[aJ,aI]);have s1:dJ af H3 57 (.ptr H2.next 0) (.agg [e1,e2])=some H4:=by rw[aDc];exact z1
 have z3:Fr (some H2.next) H3 H4:=z3;refine(?_:∃s' H' I',_)
 suffices hs:∃r,fI af ng (oF ng (k+1)) 6 [.agg [a1,a2],s,.agg [b1,b2]] H r/\∃s' I',r.1=.tuple [s',.int .i64 0]/\Good r.2/\Fr none H r.2/\cu I I'/\cu I' r.2.objs.get/\(∀w r,I' w=some r->w<H.next->I w=some r)/\RP I' (.sl (((List.range N.V.length).map λ e=>(List.range N.V.length).map λ f=>(g e f:Int)).map λ r=>[aD r]) none) s' by obtain⟨⟨v,H'⟩,h1,s',I',J,h3⟩:=hs;simp only at J h3;subst J;exact⟨s',H',I',h1,h3⟩
 refine qn Tryz.func6 rfl ?_;show W af ng _ 59 _ _ _ _;refine aO (bW (H':=H1) (λ T=>aw T 3=.ptr H.next 0/\aw T 5=.ptr (H.next+1) 0/\aw T 1=s) ?_ ?_)
 ·(repeat ((first|apply bA (br rfl)|apply bO rfl rfl rfl);simp+decide only[AB,a0,a4,aR,aQ,an,aq];rfl))
  exact bF ⟨by simp+decide only[AB],by simp+decide only[AB],by simp+decide only[AB,a5]⟩
 rintro T1 ⟨t3,t5,t1⟩ _
 refine aO (aO (bW (H':=Hv) (λ T=>aw T 8=.int .i64 0) ?_ ?_))
 ·(repeat ((first|apply bA (br rfl)|apply bO rfl rfl rfl);simp+decide only[AB,t3,t1,N7 (aj (Fr.refl none H1)),jS,oq,aDr,a3];rfl))
  exact bF (by simp+decide only[AB])
 intro T2 t8 Z;refine aO (bW (H':=Hv) (λ T=>aw T 20=.bool false) ?_ ?_)
 ·(repeat ((first|apply bA (br rfl)|apply bO rfl rfl rfl);simp+decide only[AB,t8];rfl))
  exact bF (by simp+decide only[AB];rfl)
 intro T3 ax k3;have aE:=(k3 3 rfl).trans ((Z 3 rfl).trans t3);have al:=(k3 5 rfl).trans ((Z 5 rfl).trans t5);have aH:=(k3 1 rfl).trans ((Z 1 rfl).trans t1);refine jZ (by rw[mc,ax]) (λ h=>by cases h) (λ _=>kH ?_);refine aO (bW (H':=H4) (λ T=>aw T 9=.ptr u 0/\aw T 11=.bool true) ?_ ?_)
 ·(repeat ((first|apply bA (br rfl)|apply bO rfl rfl rfl);simp+decide only[AB,aE,aH,al,N7 (aj fv),arE (az fv),jS,oq,aDF,aZ,aiB,aiC,aDq,aP,ap,s1];rfl))
  exact bF ⟨by simp+decide only[AB],by simp+decide only[AB]⟩
 rintro T4 ⟨t9,ay⟩ k4
 have v5:=(k4 5 rfl).trans al;refine aO (aO (bW (H':=H4) (λ T=>aw T 31=.bool false) ?_ ?_))
 ·(repeat ((first|apply bA (br rfl)|apply bO rfl rfl rfl);simp+decide only[AB,ay,Vx];rfl))
  exact bF (by simp+decide only[AB])
 intro T5 av k5;have y5:=(k5 5 rfl).trans v5;have y9:=(k5 9 rfl).trans t9;refine jZ (by rw[mc,av]) (λ h=>by cases h) (λ _=>kH ?_);show W af ng _ 59 aBV _ _ _;have A:∀w r,H2.objs.get w=some r->H4.objs.get w=some r:=λ w r e=>by have hw:=g2.wf w r e;exact z3.row w r (f3.row w r e (by simp)) (λ e=>by have h:r.aC=H2.next:=dU e;omega)
 have F:∀w l,H2.aG.get w=some l->H4.aG.get w=some l:=λ w l e=>by have hw:=(g2.mem w l e).1;exact z3.aG w l (f3.aG w l e (by simp)) (λ e=>by have h:w=H2.next:=dU e;omega)
 have G:Fr none H1 H2:=fv.trans f2;have au:=w5.keep G (by simp);have aL:=G.aG _ _ m5 (by simp)
 have aK:I2 (H.next+1)=none:=by
  cases e:I2 (H.next+1);.rfl
  rename_i r;have h1:=k2 _ _ e (by have:=fv.next;omega);have J:=kv _ _ h1 (by omega);have:=(gd.wf _ _ (hI _ _ J)).1;omega
 have a6:H.next+1<u:=by have:=fv.next;omega
 obtain⟨I',j1,j2,j3⟩:=aCf (K:=H4) λ w=>w=H.next+1\/w=u\/w<H.next/\I w=none
 have am:cu I2 I':=λ w r e=>j1 w r (A w r (i2 w r e)) (λ h=>by
  rcases h with rfl|rfl|⟨h1,J⟩
  .rw[aK]at e;cases e
  .rw[ae.im]at e;cases e
  rw[kv _ _ (k2 _ _ e (by have:=fv.next;omega)) (by omega)]at J;cases J)
 have L:cu I I':=lv.trans (l2.trans am)
 have aN:=okN (ng:=ng) (gl:=gl) g4 (ac.mono L) j2 (bs:=[⟨5,[.sl (N.E.map El.c) none,.sl (N.V.map Oc.c) none],H.next+1⟩,⟨9,N.c none none none,u⟩]) (T:=[(5,.ptr 0 5 0),(9,.ptr 0 9 0)]) (T':=T5) (by
  intro b D;rcases ck.1 D with rfl|D
  .refine⟨⟨_,A _ _ au.row,rfl,rfl,rfl,b1,_,rfl,.inl ?_,b2,_,rfl,.inl ?_,rfl⟩,F _ _ aL,j3 _ (.inl rfl)⟩;.exact pU L _ _ (by simpa only[aA]using p3)
   exact pU L _ _ (by simpa only[aA]using p4)
  .obtain rfl:=dp.1 D;obtain⟨r,y1,y2,y3,y4,y5⟩:=ae.row;exact⟨⟨r,A _ _ y1,y2,y3,y4,aCt am y5⟩,F _ _ ae.mem,j3 _ (.inr (.inl rfl))⟩)
  (by
   intro b D c hc e;rcases ck.1 D with rfl|D<;>rcases ck.1 hc with rfl|hc
   .rfl
   .obtain rfl:=dp.1 hc;have e:H.next+1=u:=e;omega
   .obtain rfl:=dp.1 D;have e:u=H.next+1:=e;omega
   obtain rfl:=dp.1 D;obtain rfl:=dp.1 hc;rfl)
  (by
   intro p hp;rcases ck.1 hp with rfl|hp
   .exact .inl ⟨5,H.next+1,rfl,rfl,y5⟩
   obtain rfl:=dp.1 hp;exact .inl ⟨9,u,rfl,rfl,y9⟩)
 refine aY (k+1) (by omega) aN λ T9 H9 G9 q ab=>?_
 obtain⟨xs,x1,x2,x3⟩:=GZ (P:=af) q.bN q.tmp (rs:=Tryz.f6.results.toList) (l:=[.sl (((List.range N.V.length).map λ e=>(List.range N.V.length).map λ f=>(g e f:Int)).map λ r=>[aD r]) none,eI 0]) (by rw[Hd aDe];rfl);obtain⟨s',l9,rfl,n1,n2⟩:=cf.1 x2;obtain⟨z,l9,rfl,n3,n4⟩:=cf.1 n2;simp only[bB]at n4;subst n4;simp only[aA]at n1 n3;obtain⟨rfl,_⟩:=n3;have ag:Fr none H H4:=⟨λ w r e _=>A w r ((Y.trans G).row w r e (by simp)),λ w l e _=>F w l ((Y.trans G).aG w l e (by simp)),by have:=(Y.trans G).next;have:=z3.next;omega⟩
 refine⟨by simp,_,x1,s',G9.I,rfl,q.bN.gd,aDt gd ag ab (λ b D=>by
  rcases ck.1 D with rfl|D
  .show H.next<=H.next+1;omega
  obtain rfl:=dp.1 D;show H.next<=u;omega),L.trans ab.im,q.bN.fJ,λ w r e hw=>?_,n1⟩
 have hj:I' w=some r:=ab.nJ w r e (by have:=ag.next;omega);cases ao:I w;.rw[j3 w (.inr (.inr ⟨hw,ao⟩))]at hj;cases hj
 .rename_i r';have h1:=j2 _ _ hj;have J:=ag.row w r' (hI _ _ ao) (by simp);rw[h1]at J;exact J.symm
end
section
def aCx(d:Array Int)(G:∀i j,i<=j->j<d.size->d[i]! <=d[j]!):∀m,m<=d.size->(Lib.compactUpTo d m).Pairwise (·<·)/\∀x,x∈Lib.compactUpTo d m↔∃j,j<m/\d[j]! =x:=by
 intro m;induction m with
 |zero=>intro _;exact⟨by simp[Lib.compactUpTo],λ x=>by simp[Lib.compactUpTo]⟩
 |succ m L=>
  intro Y;obtain⟨D,A⟩:=L (by omega);rw[Lib.compactUpTo_succ];by_cases q:Lib.keeps d m=true
  .rw[ao q];refine⟨List.pairwise_append.2 ⟨D,by simp,λ a P b J=>?_⟩,λ x=>?_⟩
   .simp only[dp]at J;subst J;obtain⟨j,F,rfl⟩:=(A a).1 P;have q:=jk q;rcases q with h0|M
    .omega
    have h1:=G j (m- 1) (by omega) (by omega);have Z:=G (m- 1) m (by omega) (by omega);omega
   rw[jA,A,dp];constructor
   .rintro(⟨j,F,rfl⟩|rfl)
    .exact⟨j,by omega,rfl⟩
    exact⟨m,by omega,rfl⟩
   rintro⟨j,F,rfl⟩
   by_cases e:j=m;.subst e;exact .inr rfl
   exact .inl ⟨j,by omega,rfl⟩
  rw[aj q,oq];refine⟨D,λ x=>?_⟩;rw[A];have q:¬(m=0\/d[m]!≠d[m- 1]!):=λ h=>q (dV h)
  constructor;.rintro⟨j,F,rfl⟩;exact⟨j,by omega,rfl⟩
  rintro⟨j,F,rfl⟩
  by_cases e:j=m
  .subst e;refine⟨j- 1,by omega,?_⟩;have:¬d[j]!≠d[j- 1]! :=λ h=>q (.inr h)
   exact(Classical.not_not.1 this).symm
  exact⟨j,by omega,rfl⟩
def aCY(l:List Int):(Lib.compact (mH l)).Pairwise (·<·)/\∀x,x∈Lib.compact (mH l)↔x∈l:=by
 have F:(mH l).Pairwise (λ a b=>decide (a<=b)=true):=List.pairwise_mergeSort (λ a b c D A=>by simp at*;omega) (λ a b=>by simp;omega) l
 have L:∀i j,i<=j->j<(mH l).toArray.size->(mH l).toArray[i]! <=(mH l).toArray[j]! :=λ i j J h=>by
  have q:j<(mH l).length:=by simpa using h
  rw[aD7 (mH l).toArray i (by simp;omega),aD7 (mH l).toArray j h];simp only[List.getElem_toArray];by_cases e:i=j;.subst e;exact Int.le_refl _
  have:=List.pairwise_iff_getElem.1 F i j (by omega) q (by omega);simpa using this
 obtain⟨D,A⟩:=aCx (mH l).toArray L (mH l).length (by simp);refine⟨D,λ x=>?_⟩;show x∈Lib.compactUpTo (mH l).toArray (mH l).length↔_;rw[A];have G:x∈l↔x∈mH l:=(List.mergeSort_perm l _).mem_iff.symm;rw[G,List.mem_iff_getElem];constructor
 .rintro⟨j,h,rfl⟩
  exact⟨j,h,by rw[aD7 (mH l).toArray j (by simpa using h)];simp⟩
 rintro⟨j,h,rfl⟩
 exact⟨j,h,by rw[aD7 (mH l).toArray j (by simpa using h)];simp⟩
def aBL:∀{l:List Int} {a b:Int},l.Pairwise (·<·)->(∀x∈l,a<=x/\x<b)->a<=b->(l.length:Int)<=b-a
 |[],a,b,_,_,h=>by simp;omega
 |x::l,a,b,h,k,_=>by obtain⟨D,A⟩:=List.pairwise_cons.1 h;obtain⟨G,F⟩:=k x (cS ..);have:=aBL (a:=x+1) (b:=b) A (λ y q=>⟨by have:=D y q;omega,(k y (cz _ q)).2⟩) (by omega);rw[cD];omega
variable{E:List El}{V:List Oc}{out:List (List Int)}
def akO(E:List El)(out:List (List Int))(u:Int):List Int:=match df E u with
 |some y=>if 0<=y.ev then y.ev::out.getD y.ev.toNat []else[]
 |none=>[]
def Yh(E:List El)(out:List (List Int))(z:List Int):List Int:=z.flatMap (akO E out)
def aDW{z:List Int}(h:k<z.length):Yh E out (z.take (k+1))=Yh E out (z.take k)++akO E out z[k]:=by unfold Yh;rw[aD5,List.flatMap_append,cW h];simp
def amS(E:List El)(i:Nat)(x:Oc):Prop:=∀u∈gO x,∃y,df E u=some y/\y.ev<i
structure agX (E:List El) (V:List Oc) (out:List (List Int)):Prop where
 le:out.length<=V.length
 len:∀(k:Nat) (l:List Int),out[k]? =some l->l.length<=k
 bd:∀(k:Nat) (l:List Int),out[k]? =some l->∀a∈l,0<=a/\a<(k:Int)
 mem:∀(k:Nat) (x:Oc),k<out.length->V[k]? =some x->∀a,a∈out.getD k []↔∃u∈gO x,∃y,df E u=some y/\0<=y.ev/\(a=y.ev\/a∈out.getD y.ev.toNat [])
def aCU(h:agX E V out)(A:out.length<=n)(u:Int):(akO E out u).length<=n+1:=by
 unfold akO;split
 .split
  .rw[cD,pJ];cases q:out[‹El›.ev.toNat]?;.simp
   rename_i l;have:=h.len _ _ q;have:=(mR.1 q).1;simp;omega
  simp
 simp
def aBt(h:agX E V out)(q:out.length<=n):∀z:List Int,(Yh E out z).length<=z.length*(n+1)
 |[]=>by simp[Yh]
 |k::z=>by have A:=aBt h q z;have:=aCU h q k;simp only[Yh,List.flatMap_cons,dM,cD]at A⊢;rw[jR];omega
def aBp{z:List Int}{a:Int}:a∈Yh E out z↔∃u∈z,∃y,df E u=some y/\0<=y.ev/\(a=y.ev\/a∈out.getD y.ev.toNat []):=by
 unfold Yh;rw[List.mem_flatMap];refine aD4 λ u=>aD3 λ _=>?_
 unfold akO;cases h:df E u;.simp
 rename_i y;simp only[lz,aEb];by_cases h0:0<=y.ev;.simp[h0]
 simp[h0]
def agX.nil:agX E V []:=⟨iB _,λ k l h=>(by simp at h),λ k l h=>(by simp at h),λ k x h=>(by simp at h)⟩
def agX.step(h:agX E V out){x:Oc}(L:V[out.length]? =some x)(M:∀k x,V[k]? =some x->amS E k x):agX E V (out++[Lib.compact (mH (Yh E out (gO x)))]):=by
 obtain⟨h1,Y⟩:=aCY (Yh E out (gO x));have gd:∀{j:Nat} {l:List Int},j<out.length->(out++[l]).getD j []=out.getD j []:=λ {j l} hj=>by rw[pJ,xp hj,<-pJ]
 have P:∀a∈Lib.compact (mH (Yh E out (gO x))),0<=a/\a<out.length:=λ a ha=>by
  obtain⟨u,D,y,F,h0,q⟩:=aBp.1 ((Y a).1 ha);obtain⟨y',G,Z⟩:=M _ _ L u D;rw[F]at G;cases G;rcases q with rfl|q
  .exact⟨h0,Z⟩
  rw[pJ,cW (show y.ev.toNat<out.length by omega)]at q;have:=h.bd _ _ (cW (show y.ev.toNat<out.length by omega)) a q;omega
 have ab:=(mR.1 L).1
 have cs:∀{k:Nat} {l:List Int},(out++[Lib.compact (mH (Yh E out (gO x)))])[k]? =some l->out[k]? =some l\/k=out.length/\l=Lib.compact (mH (Yh E out (gO x))):=λ {k l} e=>by
  by_cases J:k<out.length;.rw[xp J]at e;exact .inl e
  have A:k=out.length:=by have:=(mR.1 e).1;simp at this;omega
  subst A;rw[xo (be _)]at e;simp at e;exact .inr ⟨rfl,e.symm⟩
 refine⟨by simp;omega,λ k l e=>?_,λ k l e=>?_,λ k y J F a=>?_⟩
 .rcases cs e with e|⟨rfl,rfl⟩
  .exact h.len k l e
  have:=aBL (a:=0) (b:=out.length) h1 P (by omega);omega
 .rcases cs e with e|⟨rfl,rfl⟩
  .exact h.bd k l e
  exact P
 have J:k<out.length+1:=by simpa using J
 have rest:∀{u:Int},u∈gO y->((∃z,df E u=some z/\0<=z.ev/\(a=z.ev\/a∈out.getD z.ev.toNat []))↔∃z,df E u=some z/\0<=z.ev/\(a=z.ev\/a∈(out++[Lib.compact (mH (Yh E out (gO x)))]).getD z.ev.toNat [])):=λ {u} D=>by
  refine aD4 λ z=>aD3 λ hz=>aD3 λ h0=>?_
  obtain⟨z',G,Z⟩:=M _ _ F u D;rw[hz]at G;cases G;rw[gd (by omega)]
 by_cases A:k<out.length;.rw[gd A,h.mem k y A F];exact aD4 λ u=>aD3 λ D=>rest D
 obtain rfl:k=out.length:=by omega
 rw[L]at F;cases F;rw[pJ,xo (be _),aip];show a∈Lib.compact (mH (Yh E out (gO x)))↔_;rw[Y,aBp];exact aD4 λ u=>aD3 λ D=>rest D
def ac4(E:List El):List Oc->List (List Int)->List (List Int)
 |[],o=>o
 |x::V,o=>ac4 E V (o++[Lib.compact (mH (Yh E o (gO x)))])
def aCp{x:Oc}:∀{a:List Oc} {o:List (List Int)},ac4 E (a++[x]) o=ac4 E a o++[Lib.compact (mH (Yh E (ac4 E a o) (gO x)))]
 |[],_=>rfl
 |_::a,_=>aCp (a:=a)
def aB7{x:Oc}(h:V[i]? =some x):ac4 E (V.take (i+1)) []=ac4 E (V.take i) []++[Lib.compact (mH (Yh E (ac4 E (V.take i) []) (gO x)))]:=by rw[aD5,h];exact aCp
def azR(A:∀k x,V[k]? =some x->amS E k x):∀i,i<=V.length->agX E V (ac4 E (V.take i) [])/\(ac4 E (V.take i) []).length=i
 |0,_=>⟨agX.nil,rfl⟩
 |i+1,h=>by obtain⟨F,D⟩:=azR A i (by omega);have q:V[i]? =some V[i]:=cW (by omega);rw[aB7 q];exact⟨F.step (by rw[D];exact q) A,by simp[D]⟩
def uok(q:jV N)(Y:apm N){x:Oc}(D:N.V[k]? =some x):amS N.E k x:=λ u J=>by
 have P:=(mR.1 D).1;obtain⟨x',L,A,Z⟩:=Y k _ (cW (show k<N.C.length by rw[q.cv];exact P));rw[D]at L;cases L;have F:=(q.oc x (jm D)).us u J;have h:df N.E u=some N.E[u.toNat]:=by unfold df;rw[ao F.1,cW (by omega)]
 refine⟨_,h,?_⟩;unfold sq at A;split at A
 .rename_i r M;cases A;have G:∀y∈N.E,y.ev<64:=λ y h=>by have:=q.el y h;have:=q.vl;omega
  by_cases h0:0<=N.E[u.toNat].ev;.have:=Z _ ((ayH G (i:=N.E[u.toNat].ev.toNat) M).2 (.inr ⟨u,J,_,h,h0,.inl rfl⟩));omega
  omega
 cases A
end
section
variable{gl:aM}{base:eH}
def aDV{x:El}:VW gl base 26 [.agg x.c] S=some (eB (decide (x.ev< -1)),S,false):=by refine iU (S':=[]) (w:=false) aDd rfl rfl ?_;simp+decide only[bz,aB0,VB,lk,aB,↓reduceIte,Nat.reduceBEq,Nat.reduceAdd,aBH,aBo,El.c]
def aDv:cy af 26=true:=by kernel_rfl
def aDg:cy af 56=true:=by kernel_rfl
def apr(x:El)(_:Unit):Option (Unit⊕bZ):=if-1<=x.ev then some (.inl ())else none
def aCu:∀{l:List El},(∀y∈l,-1<=y.ev)->bP apr l ()=some (.inl ())
 |[],_=>rfl
 |x::l,h=>by simp only[bP,apr,ao (h x (cS ..))];exact aCu λ y q=>h y (cz _ q)
def aCD{E:List El}(L:E.length<=1000)(J:∀y∈E,-1<=y.ev){S:List bI}:VW gl base 56 [.sl (E.map El.c) none,.fn 26 []] S=some (eI (-1),S,false):=by
 have A:=pg (P:=af) (gl:=gl) (Z7:=VW gl base) (n:=19) (l:=E) (C:=apl) (B:=anN) (f:=apr)
  (TT:=λ i _=>[(0,.sl (E.map El.c) none),(1,.fn 26 []),(7,eI E.length),(8,eI i)]) (ST:=λ _=>(aH [] []))
  (X:=λ _=>(.exit 0,[(0,.sl (E.map El.c) none),(1,.fn 26 []),(7,eI E.length),(8,eI E.length),(9,eB false)],(aH [] []))) ?_ ?_ ?_ () _ (aCu J)
 .have A:aJ af gl (VW gl base) 19 apl [(0,.sl (E.map El.c) none),(1,.fn 26 []),(7,eI E.length),(8,eI 0)] _=_:=A;refine iU (S':=[]) (w:=false) aDI rfl rfl ?_;simp+decide only[bz,aBO,VB,lk,aB,↓reduceIte,Nat.reduceBEq,Nat.reduceAdd,aCl,aBr,aBF,aF,A]
 .intro i s;rw[aD1];simp+decide only[VB,lk,aB,↓reduceIte,Nat.reduceBEq,Nat.reduceAdd]
 .intro i s x hi F;have q:((i:Int)<(E.length:Int))=True:=dw (by omega);have G:(E.map El.c)[i]? =some x.c:=by rw[bM,F];rfl
  unfold apr;by_cases h: -1<=x.ev
  .have D:=λ S=>aDV (gl:=gl) (base:=base) (x:=x) (S:=S)
   rw[cX (show¬x.ev< -1 by omega)]at D;simp only[ao h];simp only[El.c]at D;simp+decide only[anN,VB,lk,aB,↓reduceIte,Nat.reduceBEq,Nat.reduceAdd,avy,aBC,aCh,aCr,q,aY G,El.c,aI aDv,D,gW (show i<=4611686018427387904 by omega)]
  simp only[aj h]
 intro s;refine⟨?_,λ h=>by cases h⟩;simp+decide only[anN,VB,lk,aB,↓reduceIte,Nat.reduceBEq,Nat.reduceAdd,avy,jT]
def aCE{E:List El}(q:E.length<=1000)(A:∀y∈E,-1<=y.ev){S:List bI}:VW gl base 25 [.sl (E.map El.c) none,.fn 26 []] S=some (eB false,S,false):=by
 have h:=λ S=>aCD (gl:=gl) (base:=base) q A (S:=S)
 refine iU (S':=[]) (w:=false) aCC rfl rfl ?_;simp+decide only[bz,aCg,VB,lk,aB,↓reduceIte,Nat.reduceBEq,Nat.reduceAdd,aCo,aBT,aI aDg,h]
end
section
variable{S:Nat->Prop}{a b:aa}{g:Nat->Option Row}{j:TypeInfo}{l:List Int}
variable{ng:Nat}{gl:aM}{Z7:aW}
def aDp(Y:cu I g){es:aS}(M:RP I (.sl es none) a){e:List ae}(q:es[i]? =some e){F:TypeId}(L:Tryz.prog.underlying t=some (.slice F))(P:Tryz.prog.info? F=some j)(h:e.length=j.size):
 ∃v off cs,(∀k,iM af t a (.int k (.ofNat i))=some (.ptr v off))/\bq g v off e.length=some cs/\cE I e cs:=by
 obtain⟨v,off,G,r,sz,rfl,h1,h2,h3,Z⟩:=azd M q;obtain⟨J,D,A⟩:=anS Z q;have hi:=(mR.1 q).1;rw[<-J,h]at D A h3;rw[n8,xz]at D;refine⟨v,off+i*j.size,_,λ k=>?_,?_,A⟩;.simp only[iM,L,P,b9 hi]
 .simp only[bq,Y _ _ h1];rw[h,b9 (by omega)];simp only
  congr 1
  rw[zG,aEa,pG]
  congr 1
  omega
def ax3:Tryz.prog.info? 94=some Tryz.t94:=by kernel_rfl
def aDX:Tryz.prog.info? 33=some Tryz.t33:=by kernel_rfl
def aCK:Tryz.prog.info? 34=some Tryz.t34:=by kernel_rfl
def auY:gv af 36 (.ptr v o) 0=some (.ptr v (o+0)):=by kernel_rfl
def aDE:gv af 36 (.ptr v o) 1=some (.ptr v (o+1)):=by kernel_rfl
def aB1:gv af 91 (.ptr v o) 4=some (.ptr v (o+4)):=by kernel_rfl
def avx{c:aa}(h:bq g v off 1=some [c]):de af g 33 (.ptr v off)=some c:=by simp only[de,Tryz.underlying33,aDX,h];rfl
def aC2{c:aa}(h:bq g v off 1=some [c]):de af g 34 (.ptr v off)=some c:=by simp only[de,Tryz.underlying34,aCK,h];rfl
def aBN(h:bq g v off 3=some cs):de af g 94 (.ptr v off)=some (.agg cs):=by have q:Tryz.t94.size=3:=rfl;simp only[de,Tryz.underlying94,ax3,q,h];rfl
def axD{c:aa}(h:bq g v off 1=some [c]):de af g 3 (.ptr v off)=some c:=by simp only[de,Tryz.underlying3,rB,h];rfl
def aCZ:ig af 94=some (.agg [.int .i64 0,.ai,.ai]):=by kernel_rfl
def aCF{H:ah}{c:aa}:dJ af H 94 (.ptr v off) (.agg [a,b,c])=gM H v off [a,b,c]:=by simp only[dJ,ax3];rfl
def aBE:ig af 45=some .ai:=by kernel_rfl
def aCH(A:a.cells=[a]):nM af 40 1 (some [(0,a)])=some ([a],1,some 1):=by have q:Tryz.t45.size=1:=rfl;have h:(aa.ai).cells=[.ai]:=rfl;simp+decide only[nM,Tryz.underlying40,DY,aBE,q,h,fill,A,kh,ep];rfl
def aDj{H:ah}{x:aa}{new:List aa}(h:lenOf x=some n)(q:eR H.objs.get 1 n x=some new):jM af H [40,40] [s,x]=gm H 1 24 s n new:=by have D:Tryz.t45.size=1:=rfl;have A:Tryz.t45.bytes=24:=rfl;simp+decide only[jM,Tryz.underlying40,DY,aBE,aa.cells,zH,D,A,h,q]
def aDR{l:List aa}{H:ah}:ir af Z7 25 l H=Z7 25 l H:=by simp only[ir,Tryz.func25];rfl
def aCW{l:List aa}{H:ah}:ir af Z7 27 l H=Z7 27 l H:=by simp only[ir,Tryz.func27];rfl
def aCM{a:Int}(h:l[i]? =some a):uG.rel (λ _=>none) (λ _=>False) a (lT (cT l) 1 i):=by show lT (cT l) 1 i=[.int .i64 a];have hi:=(mR.1 h).1;unfold lT;rw[xF,rL (by simpa[cT]using hi),dC,dh];simp only[cT,List.getElem_map];rw[cW hi]at h;cases h;rfl
def aDS{fm:Option Nat}(h:cj K 1 l.length s (cT l) fm)(A:∀f,fm=some f->¬S f):(ns uG).rel K.objs.get S l [s]:=⟨s,cT l,rfl,h.axb A,λ i a q=>aCM q⟩
def aDB(h:(ns uG).rel g S l [s]):jd g 1 l.length s (cT l):=by
 obtain⟨v,q,e,A,G⟩:=h;cases e
 have F:q=cT l:=by
  apply xr;intro i;by_cases hi:i<l.length
  .have:=G i l[i] (cW hi);have this:lT q 1 i=[.int .i64 l[i]]:=this;unfold lT at this;have D:q.length=l.length:=by have:=A.1;simpa[uG]using this
   rw[xF,rL (by omega),dC,dh]at this;rw[cW (by omega),cW (by simpa[cT]using hi)];simp only[cT,List.getElem_map];exact dc some (aD8 this).1
  have D:q.length=l.length:=by have:=A.1;simpa[uG]using this
  rw[ma (by omega),ma (by simp[cT];omega)]
 subst F;exact A.read
def jd.at1{a:Int}(h:jd g 1 l.length s (cT l))(hi:l[i]? =some a){e:TypeId}(A:Tryz.prog.underlying t=some (.slice e))(D:Tryz.prog.info? e=some j)(q:j.size=1):
 ∃v off,(∀k,iM af t s (.int k (.ofNat i))=some (.ptr v off))/\bq g v off 1=some [.int .i64 a]:=by
 obtain⟨v,o,F,_,h3⟩:=h.index (mR.1 hi).1 A D q;have:=h3 0 (.int .i64 a) (by omega) (by simp only[cT,bM,xF,nY,hi];rfl);exact⟨v,o,F,this⟩
def aDf{H:ah}(f:Fr none H K)(h:bq H.objs.get v o n=some cs):bq K.objs.get v o n=some cs:=by
 unfold bq at h⊢;cases e:H.objs.get v;.rw[e]at h;cases h
 rename_i r;rw[e]at h;rw[f.row v r e (by simp)];exact h
def aB8{v:ae}(h:RP I v b):b.eh=true:=vp (ρ:=ρ0) (anl h) (au8 h).2.2
def aAs(ng:Nat)(gl:aM)(Z7:aW)(E:List El):Prop:=∀{I:Im} {H:ah} {s:aa},Good H->cu I H.objs.get->kJ ng gl (AN I)->RP I (.sl (E.map El.c) none) s->∃H',Z7 25 [s,.func 26 [] []] H=some (.bool false,H')/\Good H'/\Fr none H H'
def ar4(ng:Nat)(gl:aM)(Z7:aW)(x:Oc):Prop:=∀{I:Im} {H:ah} {a b:aa},Good H->cu I H.objs.get->kJ ng gl (AN I)->RP I (aD x.no) a->RP I (aD x.ed) b->∃v H',Z7 27 [.agg [.int .i64 x.ru,a,b]] H=some (v,H')/\Good H'/\Fr none H H'/\jd H'.objs.get 1 (gO x).length v (cT (gO x))
def aDM{E:List El}{V:List Oc}(c4:aAs ng gl Z7 E)(aD:∀x∈V,ar4 ng gl Z7 x)(c3:YB Z7)(OE:adZ Z7){H:ah}(g:Good H)(hI:cu I H.objs.get)(bD:kJ ng gl (AN I)){sL sV:aa}(r1:RP I (.sl (E.map El.c) none) sL)(r2:RP I (.sl (V.map Oc.c) none) sV)
 (lE:E.length<=1000) (lV:V.length<=30) (hE:∀y∈E,-1<=y.ev) (hu:∀k x,V[k]? =some x->amS E k x) (aP:∀x∈V,(gO x).length<=20):
 ∃r,fI af ng Z7 7 [.agg [sL,sV]] H r/\Fr none H r.2/\Good r.2/\∃s,r.1=.tuple [s,.int .i64 0]/\(ns (ns uG)).rel r.2.objs.get (λ f=>f<H.next+1) (ac4 E V []) [s]:=by
 have nL:dD af 33 sL=some (.int .i64 (Int.ofNat E.length)):=by have:=p9 r1 Tryz.underlying33;rw[aF]at this;exact this
 have nV:dD af 34 sV=some (.int .i64 (Int.ofNat V.length)):=by have:=p9 r2 Tryz.underlying34;rw[aF]at this;exact this
 refine qn Tryz.func7 rfl ?_;show W af ng Z7 75 _ _ _ _;have g1:=gD g [sL,sV] true 1;have f1:=gH g [sL,sV] true 1;have o1:=ic H [sL,sV] true 1;generalize bU:alloc H [sL,sV] true 1=H1 at g1 f1 o1;have dc:H1.next=H.next+1:=by rw[<-bU];rfl
 have cK:aw (fH [.agg [sL,sV]] 0 .nil) 0=.agg [sL,sV]:=rfl;have cH:(aa.agg [sL,sV]).cells=[sL,sV]:=rfl;have cG:(aa.agg [.int .i64 0,.ai,.ai]).cells=[.int .i64 0,.ai,.ai]:=rfl;have I1:∀{K:ah},Fr none H1 K->cu I K.objs.get:=λ fK u r e=>fK.row u r (f1.row u r (hI u r e) (by simp)) (by simp)
 have aoh:∀{K:ah},Fr none H1 K->bq K.objs.get H.next (0+0) 1=some [sL]:=λ fK=>(o1.keep fK (by simp)).rd (by simp)
 have cn:∀{K:ah},Fr none H1 K->bq K.objs.get H.next (0+1) 1=some [sV]:=λ fK=>(o1.keep fK (by simp)).rd (by simp)
 obtain⟨H2,bN,g2,f2⟩:=c4 g1 (I1 (Fr.refl _ _)) bD r1;refine aO (bW (H':=H1) (λ T=>aw T 1=.ptr H.next 0) ?_ ?_)
 ·(repeat ((first|apply bA (br rfl)|apply bO rfl rfl rfl);simp+decide only[AB,cK,cH,bU];rfl))
  exact bF (by simp+decide only[AB])
 intro T1 t1 _;refine aO (bW (H':=H1) (λ T=>aw T 4=.ai) ?_ ?_)
 ·(repeat ((first|apply bA (br rfl)|apply bO rfl rfl rfl);simp+decide only[AB,t1];rfl))
  exact bF (by simp+decide only[AB])
 intro T2 t4 k2;have a1:=(k2 1 rfl).trans t1;refine aO (aO (bW (H':=H2) (λ T=>aw T 13=.bool false) ?_ ?_))
 ·(repeat ((first|apply bA (br rfl)|apply bO rfl rfl rfl);simp+decide only[AB,a1,auY,avx (aoh (Fr.refl none H1)),jS,oq,aDR,bN];rfl))
  exact bF (by simp+decide only[AB])
 intro T3 cf k3;have b1:=(k3 1 rfl).trans a1;have b4:=(k3 4 rfl).trans t4;refine jZ (by rw[mc,cf]) (λ h=>by cases h) (λ _=>kH ?_);refine aO (aO (bW (H':=H2) (λ T=>aw T 15=sV/\aw T 16=.int .i64 (Int.ofNat V.length)/\aw T 17=.int .i64 (Int.ofNat 0)) ?_ ?_))
 ·(repeat ((first|apply bA (br rfl)|apply bO rfl rfl rfl);simp+decide only[AB,b1,aDE,aC2 (cn f2),nV];rfl))
  exact bF ⟨by simp+decide only[AB],by simp+decide only[AB],by simp+decide only[AB];rfl⟩
 rintro T4 ⟨ce,cd,cc⟩ k4
 have d1:=(k4 1 rfl).trans b1;have d4:=(k4 4 rfl).trans b4;refine ku (tj (λ j T K=>∃i fm,j+i=V.length/\aw T 1=.ptr H.next 0/\aw T 15=sV/\aw T 16=.int .i64 (Int.ofNat V.length)/\aw T 17=.int .i64 (Int.ofNat i)/\jr (ns uG) K H2.next (aw T 4) (ac4 E (V.take i) []) fm/\Fr none H2 K/\Good K/\rZ H2 fm) ?_ V.length _ _ ⟨0,none,by omega,d1,ce,cd,cc,by rw[d4];exact jr.nil _ _ _,Fr.refl _ _,g2,.inl rfl⟩)
 rintro j T K ⟨i,fm,hi,u1,b7,bh,bg,ag,fK,gK,cF⟩
 refine aO (bW (H':=K) (λ T=>aw T 18=.bool (decide (Int.ofNat i<Int.ofNat V.length))) ?_ ?_)
 ·(repeat ((first|apply bA (br rfl)|apply bO rfl rfl rfl);simp+decide only[AB,bh,bg];rfl))
  exact bF (by simp+decide only[AB])
 intro T5 cb k5;have v1:=(k5 1 rfl).trans u1;have v4:=k5 4 rfl;have bf:=(k5 15 rfl).trans b7;have b6:=(k5 16 rfl).trans bh;have bd:=(k5 17 rfl).trans bg;have aB:Fr none H1 K:=f2.trans fK;obtain⟨a2,bB⟩:=azR hu i (by omega);refine aO (jZ (by rw[mc,cb]) (λ au=>kH ?_) (λ aV=>tX ?_))
 rotate_left 1
 .have aV:i=V.length:=by have:=xt aV;simp at this;omega
  show W af ng Z7 75 _ _ _ _;refine aO (bW (H':=K) (λ S=>aw S 2=aw T 4/\aw S 3=.int .i64 0) ?_ ?_)
  ·(repeat ((first|apply bA (br rfl)|apply bO rfl rfl rfl);simp+decide only[AB,v4];rfl))
   exact bF ⟨by simp+decide only[AB,v4],by simp+decide only[AB]⟩
  rintro S ⟨s2,s3⟩ _
  exact oR ⟨by simp,[aw T 4,.int .i64 0],by show jL af K.objs.get S [.tmp 2,.tmp 3]=_;simp only[jL,s2,s3],f1.trans aB,gK,aw T 4,rfl,by have h:=ag.rel;rw[aV,aiw]at h;exact(ns (ns uG)).sub (λ f hf=>by have:=f2.next;omega) h⟩
 have au:i<V.length:=by have:=jk au;simpa using this
 have hx:V[i]? =some V[i]:=cW au;have aQ:=aB7 (E:=E) hx;generalize ac4 E (V.take i) []=out at ag a2 bB aQ;have aN:V[i]∈V:=xC _;have bs:=hu i _ (cW au);have aP:=aP _ aN;have aD:ar4 ng gl Z7 V[i]:=aD _ aN;generalize V[i]=x at hx aN bs aP aD aQ;obtain⟨v,o,dg,bp,cB,cA⟩:=aDp (I1 aB) r2 (i:=i) (e:=x.c) (by rw[bM,hx];rfl) Tryz.underlying34 ax3 rfl;obtain⟨z1,y1,rfl,p1,q1⟩:=qf.1 cA;obtain⟨a,y2,rfl,p2,q2⟩:=qf.1 q1;obtain⟨b,y3,rfl,p3,q3⟩:=qf.1 q2;obtain rfl:=zR.1 q3;obtain⟨rfl,_⟩:z1=.int .i64 x.ru/\_:=by simpa only[RP]using p1
 have oa:=aB8 p2;have ob:=aB8 p3;have ga:=gD gK [.int .i64 0,.ai,.ai] true 1;have fa:=gH gK [.int .i64 0,.ai,.ai] true 1;have ow:=ic K [.int .i64 0,.ai,.ai] true 1;generalize cM:alloc K [.int .i64 0,.ai,.ai] true 1=Ka at ga fa ow;obtain⟨Kb,cw,aL,fb,nb,gb⟩:=lO ga ow (off:=0) (new:=[.int .i64 x.ru,a,b]) (by simp) (by show(true&&(a.eh&&(b.eh&&true)))=true;rw[oa,ob];rfl);have bX:Fr none K Kb:=Fr.SW gK fa fb (.inr ⟨K.next,be _,rfl⟩);have sb:dJ af Ka 94 (.ptr K.next 0) (.agg [.int .i64 x.ru,a,b])=some Kb:=by rw[aCF];exact cw
 refine aO (ku (aO (bW (H':=Kb) (λ S=>aw S 6=.ptr K.next 0/\aw S 5=.int .i64 (Int.ofNat i)) ?_ ?_)))
 ·(repeat ((first|apply bA (br rfl)|apply bO rfl rfl rfl);simp+decide only[AB,bf,bd,bp,aBN cB,aCZ,cG,cM,sb];rfl))
  exact bF ⟨by simp+decide only[AB],by simp+decide only[AB]⟩
 rintro T6 ⟨t6,t5⟩ k6
 have cm:bq Kb.objs.get K.next 0 3=some [.int .i64 x.ru,a,b]:=by have aL:jh Kb K.next _:=aL;exact aL.rd (by simp[ep])
 refine aO (bW (H':=Kb) (λ S=>aw S 7=.ai) ?_ ?_)
 ·(repeat ((first|apply bA (br rfl)|apply bO rfl rfl rfl);simp+decide only[AB,t6];rfl))
  exact bF (by simp+decide only[AB])
 intro T7 t7 k7;have w6:=(k7 6 rfl).trans t6;obtain⟨bc,Kc,bL,gc,fc,bk⟩:=aD gb (I1 (aB.trans bX)) bD p2 p3;have aA:Fr none K Kc:=bX.trans fc;have cR:Fr none H1 Kc:=aB.trans aA;refine aO (aO (bW (H':=Kc) (λ S=>aw S 23=bc/\aw S 24=.int .i64 (Int.ofNat (gO x).length)/\aw S 25=.int .i64 (Int.ofNat 0)) ?_ ?_))
 ·(repeat ((first|apply bA (br rfl)|apply bO rfl rfl rfl);simp+decide only[AB,w6,aBN cm,jS,oq,aCW,bL,bk.dD Tryz.underlying45];rfl))
  exact bF ⟨by simp+decide only[AB],by simp+decide only[AB],by simp+decide only[AB];rfl⟩
 rintro T8 ⟨ca,b9,b8⟩ k8
 have q:∀{t:Nat} {c:aa},aw T5 t=c->aw T6 t=aw T5 t->aw T7 t=aw T6 t->aw T8 t=aw T7 t->aw T8 t=c:=λ h a b c=>c.trans (b.trans (a.trans h))
 have m1:=q v1 (k6 1 rfl) (k7 1 rfl) (k8 1 rfl);have m4:=q v4 (k6 4 rfl) (k7 4 rfl) (k8 4 rfl);have m5:=(k8 5 rfl).trans ((k7 5 rfl).trans t5);have m7:=(k8 7 rfl).trans t7;have Q5:=q bf (k6 15 rfl) (k7 15 rfl) (k8 15 rfl);have ct:=q b6 (k6 16 rfl) (k7 16 rfl) (k8 16 rfl);have cr:=q bd (k6 17 rfl) (k7 17 rfl) (k8 17 rfl);have Y:=ag.keep aA (λ f e=>by cases e)
 have aG:∀k,(Yh E out ((gO x).take k)).length<=620:=λ k=>by
  have h1:=aBt a2 (n:=30) (by omega) ((gO x).take k);have h2:((gO x).take k).length<=20:=by simp;omega
  have h3:=mQ 31 h2;omega
 refine ku (tj (λ j' T' K'=>∃k fl,j'+k=(gO x).length/\aw T' 1=.ptr H.next 0/\aw T' 4=aw T 4/\aw T' 5=.int .i64 (Int.ofNat i)/\aw T' 15=sV/\aw T' 16=.int .i64 (Int.ofNat V.length)/\aw T' 17=.int .i64 (Int.ofNat i)/\
  aw T' 23=bc/\aw T' 24=.int .i64 (Int.ofNat (gO x).length)/\aw T' 25=.int .i64 (Int.ofNat k)/\cj K' 1 (Yh E out ((gO x).take k)).length (aw T' 7) (cT (Yh E out ((gO x).take k))) fl/\Fr none Kc K'/\Good K'/\rZ Kc fl) ?_ (gO x).length _ _
  ⟨0,none,by omega,m1,m4,m5,Q5,ct,cr,ca,b9,b8,by rw[m7];exact⟨rfl,.inl ⟨rfl,rfl,rfl⟩⟩,Fr.refl _ _,gc,.inl rfl⟩)
 rintro j' T' K' ⟨k,fl,hk,e1,e4,e5,a9,a8,a7,a6,a5,aC,ul,Z,ay,ad⟩
 refine aO (bW (H':=K') (λ S=>aw S 26=.bool (decide (Int.ofNat k<Int.ofNat (gO x).length))) ?_ ?_)
 ·(repeat ((first|apply bA (br rfl)|apply bO rfl rfl rfl);simp+decide only[AB,a5,aC];rfl))
  exact bF (by simp+decide only[AB])
 intro S0 ck J;have ar:Fr none H1 K':=cR.trans Z;refine aO (jZ (by rw[mc,ck]) (λ M=>kH ?_) (λ al=>tX ?_))
 .have M:k<(gO x).length:=by have:=jk M;simpa using this
  obtain⟨y,hy,cv⟩:=bs _ (xC M);have hm:(gO x)[k]? =some (gO x)[k]:=cW M;have bH:akO E out (gO x)[k]=if 0<=y.ev then y.ev::out.getD y.ev.toNat []else[]:=by unfold akO;rw[hy]
  have P:=aDW (E:=E) (out:=out) M;obtain⟨qn,bx,bz⟩:=jU hy;rw[bH]at P;generalize(gO x)[k]=z at hm bx;subst bx;obtain⟨c7,db,bo,bw⟩:=jd.at1 (bk.keep Z) hm Tryz.underlying45 rB rfl;obtain⟨c6,da,aE,ab⟩:=RK (I1 ar) r1 (e:=y.c) (by rw[bM,bz];rfl) Tryz.underlying33 ati rfl;obtain⟨bb,ab,cJ⟩:=ab 4 (eI y.ev) rfl;obtain⟨rfl,_⟩:bb=.int .i64 y.ev/\_:=by simpa only[RP]using cJ
  have dd:qn<E.length:=(mR.1 bz).1;have atc:=(J 23 rfl).trans a6;have b3:=(J 25 rfl).trans aC;refine aO (ku (aO (bW (H':=K') (λ S=>aw S 9=.int .i64 (Int.ofNat qn)) ?_ ?_)))
  ·(repeat ((first|apply bA (br rfl)|apply bO rfl rfl rfl);simp+decide only[AB,atc,b3,bo,axD bw];rfl))
   exact bF (by simp+decide only[AB];rfl)
  intro S s9 hS;have s1:=(hS 1 rfl).trans ((J 1 rfl).trans e1);have s5:=(hS 5 rfl).trans ((J 5 rfl).trans e5);have c0:decide (Int.ofNat qn<0)=false:=cX (by simp);have cZ:decide (Int.ofNat qn>=Int.ofNat E.length)=false:=cX (by simp;omega);have cY:decide (y.ev>=Int.ofNat i)=false:=cX (by simp;omega);refine aO (aO (bW (H':=K') (λ S'=>aw S' 47=.bool false) ?_ ?_))
  ·(repeat ((first|apply bA (br rfl)|apply bO rfl rfl rfl);simp+decide only[AB,s1,s5,s9,c0,auY,avx (aoh ar),nL,cZ,aE,aB1,axD ab,cY];rfl))
   exact bF (by simp+decide only[AB])
  intro S1 ci a3;refine jZ (by rw[mc,ci]) (λ h=>by cases h) (λ _=>kH ?_);have w1:=(a3 1 rfl).trans s1;have w9:=(a3 9 rfl).trans s9;refine aO (bW (H':=K') (λ S=>aw S 10=.int .i64 y.ev) ?_ ?_)
  ·(repeat ((first|apply bA (br rfl)|apply bO rfl rfl rfl);simp+decide only[AB,w1,w9,auY,avx (aoh ar),aE,aB1,axD ab];rfl))
   exact bF (by simp+decide only[AB])
  intro S2 bj cL;refine aO (bW (H':=K') (λ S=>aw S 55=.bool (decide (y.ev>=0))) ?_ ?_)
  ·(repeat ((first|apply bA (br rfl)|apply bO rfl rfl rfl);simp+decide only[AB,bj];rfl))
   exact bF (by simp+decide only[AB])
  intro S3 ch bT
  have F:∀t,t=1\/t=4\/t=5\/t=7\/t=15\/t=16\/t=17\/t=23\/t=24\/t=25->aw S3 t=aw T' t:=by
   rintro t (rfl|rfl|rfl|rfl|rfl|rfl|rfl|rfl|rfl|rfl)<;>
   exact(bT _ rfl).trans ((cL _ rfl).trans ((a3 _ rfl).trans ((hS _ rfl).trans (J _ rfl))))
  have bt:=(F 25 (by simp)).trans aC;have ac:∀{t:TypeId},cV af .add t (.int .i64 (Int.ofNat k)) (.int .i64 1)=some (.int .i64 (Int.ofNat (k+1))):=wu (by omega);refine jZ (by rw[mc,ch]) (λ am=>?_) (λ ak=>kH ?_)
  .have am:=jk am;rw[ao am]at P;obtain⟨e,a0⟩:∃e:Nat,y.ev=Int.ofNat e:=⟨y.ev.toNat,by simp;omega⟩;have aZ:e<out.length:=by rw[bB];have:=cv;rw[a0]at this;simpa using this
   rw[a0]at P;have cE:out.getD (Int.ofNat e).toNat []=out[e]:=by simp[pJ,aZ]
   rw[cE]at P;have cy:=(F 4 (by simp)).trans e4;have cx:=F 7 (by simp);have bu:aw S3 10=.int .i64 (Int.ofNat e):=by rw[<-a0];exact(bT 10 rfl).trans bj
   have df:=aG k;have bV:=gD ay [.int .i64 (Int.ofNat e)] true 1;have az:=gH ay [.int .i64 (Int.ofNat e)] true 1;have co:=(ic K' [.int .i64 (Int.ofNat e)] true 1).row;generalize aI:alloc K' [.int .i64 (Int.ofNat e)] true 1=bZ at bV az co;have bR:jM af bZ [45,45] [aw T' 7,.slice K'.next 0 1 none]=gm bZ 1 8 (aw T' 7) 1 [.int .i64 (Int.ofNat e)]:=by rw[<-aI];exact aoV
   obtain⟨c8,K2,fl2,bQ,bm,cU,cP,aY⟩:=Cs (k:=1) (bytes:=8) (new:=[.int .i64 (Int.ofNat e)]) bV (by omega) (ul.B7 az) rfl rfl (by unfold eJ;omega) (by unfold eJ;omega);have aq:Fr none Kc K2:=Fr.SW gc (Z.trans az) cU ad;have aH:rZ Kc fl2:=ad.SW (fX Z.next az.next) aY;have aR:=Y.rel;obtain⟨b5,cq,c5,bn,an,bv,_⟩:=Sh.elem aR aZ Tryz.underlying40 DY rfl;obtain⟨c2,cI,_⟩:=afI an;subst cI;have G:∀ba,Fr none Kc ba->bq ba.objs.get b5 cq 1=some [c2]:=λ ba f=>aDf f bv
   have re:=aDB ((ns uG).B7 aq an);have de:=a2.len e _ (cW aZ);obtain⟨cg,K3,fl3,bP,bl,cS,cO,aX⟩:=Cs (k:=out[e].length) (bytes:=8) (new:=cT out[e]) cP (by omega) bm (by rw[wT];omega) (Jd _) (by unfold eJ;omega) (by unfold eJ;omega);have bY:Fr none Kc K3:=Fr.SW gc aq cS aH;have bG:rZ Kc fl3:=aH.SW aq.next aX;have hX:∀t,t=1\/t=4\/t=5\/t=15\/t=16\/t=17\/t=23\/t=24\/t=25->aw S3 t=aw T' t:=by rintro t (rfl|rfl|rfl|rfl|rfl|rfl|rfl|rfl|rfl)<;>exact F _ (by simp)
   refine aDb (H':=K3) (λ S=>aw S 7=cg/\∀t,t=1\/t=4\/t=5\/t=15\/t=16\/t=17\/t=23\/t=24\/t=25->aw S t=aw T' t) ⟨_,aDJ (by kernel_rfl) (by simp(maxSteps:=10000000)+decide only[AB,aln,aeP,cy,cx,bu,Wb,aI,bR,bQ,bn,TM (G K2 aq),axQ re,bP];rfl) ?_,?_,?_⟩ ?_;.simp(maxSteps:=10000000)+decide only[aD6,AB,dj,aeP,dP,sj,mc,TM (G K' Z),TM (G K2 aq),TM (G K3 bY),lB,false_implies,aEc,vI,true_and]
   .simp+decide only[AB]
   .rintro t (rfl|rfl|rfl|rfl|rfl|rfl|rfl|rfl|rfl)<;>(simp+decide only[AB];exact hX _ (by simp))
   rintro S4 ⟨s7,A⟩
   have b2:=(A 25 (by simp)).trans aC;refine bW (H':=K3) (λ S=>aw S 25=.int .i64 (Int.ofNat (k+1))) ?_ ?_
   ·(repeat ((first|apply bA (br rfl)|apply bO rfl rfl rfl);simp+decide only[AB,b2,ac];rfl))
    exact bF (by simp+decide only[AB])
   intro S5 aJ D;refine⟨j'- 1,by omega,k+1,fl3,by omega,(D 1 rfl).trans ((A 1 (by simp)).trans e1),(D 4 rfl).trans ((A 4 (by simp)).trans e4),(D 5 rfl).trans ((A 5 (by simp)).trans e5),(D 15 rfl).trans ((A 15 (by simp)).trans a9),(D 16 rfl).trans ((A 16 (by simp)).trans a8),(D 17 rfl).trans ((A 17 (by simp)).trans a7),(D 23 rfl).trans ((A 23 (by simp)).trans a6),(D 24 rfl).trans ((A 24 (by simp)).trans a5),aJ,?_,bY,cO,bG⟩;rw[D 7 rfl,s7];rw[P];have e1:cT (Yh E out ((gO x).take k)++Int.ofNat e::out[e])=cT (Yh E out ((gO x).take k))++[.int .i64 (Int.ofNat e)]++cT out[e]:=by simp[cT]
   have e2:(Yh E out ((gO x).take k)++Int.ofNat e::out[e]).length=(Yh E out ((gO x).take k)).length+1+out[e].length:=by simp;omega
   rw[e1,e2];exact bl
  have ak:=xt ak;rw[aj ak,oq]at P;refine bW (H':=K') (λ S=>aw S 25=.int .i64 (Int.ofNat (k+1))) ?_ ?_
  ·(repeat ((first|apply bA (br rfl)|apply bO rfl rfl rfl);simp+decide only[AB,bt,ac];rfl))
   exact bF (by simp+decide only[AB])
  intro S4 aJ A;refine⟨j'- 1,by omega,k+1,fl,by omega,(A 1 rfl).trans ((F 1 (by simp)).trans e1),(A 4 rfl).trans ((F 4 (by simp)).trans e4),(A 5 rfl).trans ((F 5 (by simp)).trans e5),(A 15 rfl).trans ((F 15 (by simp)).trans a9),(A 16 rfl).trans ((F 16 (by simp)).trans a8),(A 17 rfl).trans ((F 17 (by simp)).trans a7),(A 23 rfl).trans ((F 23 (by simp)).trans a6),(A 24 rfl).trans ((F 24 (by simp)).trans a5),aJ,?_,Z,ay,ad⟩;rw[P,A 7 rfl,F 7 (by simp)];exact ul
 .have al:k=(gO x).length:=by have:=xt al;simp at this;omega
  rw[al,mB (be _)]at ul;have cD:=aG (gO x).length;rw[mB (be _)]at cD;show W af ng Z7 75 _ _ _ _;have x7:=J 7 rfl;have x4:=(J 4 rfl).trans e4;have x1:=(J 1 rfl).trans e1;have ax7:=(J 15 rfl).trans a9;have axw:=(J 16 rfl).trans a8;have auu:=(J 17 rfl).trans a7;obtain⟨K4,bK,cp,f4,g4⟩:=c3 K' (aw T' 7) (Yh E out (gO x)) fl ay ul (by omega);have cQ:Fr none Kc K4:=Fr.SW gc Z f4 ad;refine aO (bW (H':=K4) (λ S=>True) ?_ ?_)
  ·(repeat ((first|apply bA (br rfl)|apply bO rfl rfl rfl);simp+decide only[AB,x7,jS,oq,atj,bK];rfl))
   exact bF trivial
  intro S5 _ D;have z7:=(D 7 rfl).trans x7;have z4:=(D 4 rfl).trans x4;obtain⟨L,K5,bJ,aK,f5,g5⟩:=OE K4 (aw T' 7) (mH (Yh E out (gO x))) fl g4 (by rw[EV];exact cp) (by rw[EV];omega);have a4:Fr none Kc K5:=Fr.SW gc cQ f5 ad;have c9:=aK.one;have c1:L.cells=[L]:=by obtain⟨_,⟨rfl,_⟩|⟨_,_,rfl,_⟩⟩:=aK<;>rfl
  have g6:=gD g5 [L] true 1;have f6:=gH g5 [L] true 1;have r6:=(ic K5 [L] true 1).row;generalize cN:alloc K5 [L] true 1=K6 at g6 f6 r6;have aU:=(Y.keep (a4.trans f6) (λ f e=>by cases e))
  have cC:∀f,fl=some f->Kc.next<=f:=λ f e=>by
   rcases ad with h|⟨f',h1,h2⟩
   .rw[h]at e;cases e
   rw[h2]at e;cases e;exact h1
  have bC:=jr.lt gc Y;have hN:H2.next<=Kc.next:=(fK.trans aA).next
  have cz:(ns uG).rel K6.objs.get (λ f=>f<H2.next\/fm=some f) (Lib.compact (mH (Yh E out (gO x)))) [L]:=(ns uG).B7 f6 (aDS aK λ f e h=>by
   have h1:=cC f e;rcases h with h|h
   .omega
   have:=bC f h;omega)
  obtain⟨bi,K7,fm7,ap,ae,f7,g7⟩:=aU.push (bytes:=24) g6 (by decide) cz (by unfold eJ;omega) (by unfold eJ;omega) (by have:=a4.next;have:=f6.next;omega);have bS:jM af K6 [40,40] [aw T 4,.slice K5.next 0 1 none]=gm K6 1 24 (aw T 4) 1 [L]:=aDj (x:=.slice K5.next 0 1 none) rfl (by simp+decide only[eR,bq,r6];rfl);have ap:gm K6 1 24 (aw T 4) 1 [L]=some (bi,K7):=ap;refine bW (H':=K7) (λ S=>aw S 4=bi) ?_ ?_
  ·(repeat ((first|apply bA (br rfl)|apply bO rfl rfl rfl);simp+decide only[AB,z4,z7,jS,oq,awM,bJ,aCH c1,cN,bS,ap];rfl))
   exact bF (by simp+decide only[AB])
  intro S6 s4 ax;have b0:=(ax 17 rfl).trans ((D 17 rfl).trans auu);have ac:∀{t:TypeId},cV af .add t (.int .i64 (Int.ofNat i)) (.int .i64 1)=some (.int .i64 (Int.ofNat (i+1))):=wu (by omega);refine bW (H':=K7) (λ S=>aw S 17=.int .i64 (Int.ofNat (i+1))) ?_ ?_
  ·(repeat ((first|apply bA (br rfl)|apply bO rfl rfl rfl);simp+decide only[AB,b0,ac];rfl))
   exact bF (by simp+decide only[AB])
  intro S7 cl av
  have bE:rZ H2 fm7:=by
   cases fm7;.exact .inl rfl
   rename_i f;exact .inr ⟨f,by have h1:=ae.1 f rfl;omega,rfl⟩
  exact⟨j- 1,by omega,i+1,fm7,by omega,(av 1 rfl).trans ((ax 1 rfl).trans ((D 1 rfl).trans x1)),(av 15 rfl).trans ((ax 15 rfl).trans ((D 15 rfl).trans ax7)),(av 16 rfl).trans ((ax 16 rfl).trans ((D 16 rfl).trans axw)),cl,by rw[av 4 rfl,s4,aQ];exact ae,Fr.SW g2 ((fK.trans aA).trans (a4.trans f6)) f7 cF,g7,bE⟩
end
section
variable{ng:Nat}{gl:aM}
noncomputable def tab:List Nat:=[0,1,56,2,57,49,28,3,61,58,42,50,38,29,17,4,62,47,59,36,45,43,51,22,53,39,33,30,24,18,12,5,63,55,48,27,60,41,37,16,46,35,44,21,52,32,23,11,54,26,40,15,34,20,31,10,25,14,19,9,13,8,7,6]
noncomputable def kD:Row:={cells:=tab.map λ n=>aa.int .u8 (.ofNat n),aC:=0,start:=0,exact:=true,ro:=true,sz:=1}
inductive AwR:List aa->ah->aa×ah->Prop
 |mk {H:ah} (h:H.objs.get 0=some kD):AwR [] H (.bool true,H)
theorem awz(args:List ae):bV 4 args=none:=by unfold bV;grind
theorem aqV(args:List ae):bV 5 args=none:=by unfold bV;grind
def apW{g:Nat->Option Row}(h:bq g v off 5=some cs):de af g 27 (.ptr v off)=some (.agg cs):=by have q:Tryz.t27.size=5:=rfl;simp only[de,Tryz.underlying27,alF,q,h];rfl
def aou{H:ah}:ir af Z7 4 l H=Z7 4 l H:=by simp only[ir,Tryz.func4];rfl
def YN{H:ah}:ir af Z7 5 l H=Z7 5 l H:=by simp only[ir,Tryz.func5];rfl
theorem asY{I:Im}{tn:aS}{E:List El}{V:List Oc}{b:Bool}{q:List aa}(h:bB ρ0 I [iK tn te,ll R,o9 E V,eB b] q):
 ∃a1 a2 s b1 b2,q=[.agg [a1,a2],s,.agg [b1,b2],.bool b]/\RP I (.sl tn none) a1/\RP I (.sl te none) a2/\RP I (.sl (R.map RU.c) none) s/\RP I (.sl (E.map El.c) none) b1/\RP I (.sl (V.map Oc.c) none) b2/\a1.eh=true/\a2.eh=true/\b1.eh=true/\b2.eh=true:=by
 obtain⟨x1,l1,rfl,L,Y⟩:=cf.1 h;obtain⟨x2,l2,rfl,h2,P⟩:=cf.1 Y;obtain⟨x3,l3,rfl,h3,M⟩:=cf.1 P;obtain⟨x4,l4,rfl,h4,A⟩:=cf.1 M;simp only[bB]at A;subst A;simp only[aA]at L h3;obtain⟨_,bs,rfl,j1⟩:=L;obtain⟨_,cs,rfl,Z⟩:=h3;obtain⟨a1,a2,rfl,J,G⟩:=Me j1;obtain⟨b1,b2,rfl,F,D⟩:=Me Z;have o1:=vp J rfl;have o2:=vp G rfl;have o3:=vp F rfl;have o4:=vp D rfl;simp only[aA]at J G F D h2 h4;grind
section
variable{I:Im}{H:ah}{zT zE:List (Int×Int)}{rl:List nI}{dN:List Int}{dE:List (Int×Int×Int)}{c1 c2 c3 c4 c5:aa}
def akx(A:∀m,mz ng gl (ji af pol gl bset bV m) (mE af ng (aV ng) m))(L:AE gl)(q:kJ ng gl (AN I))(g:Good H)(F:cu I H.objs.get)
 (G:∀p∈zT,P8 p) (pE:∀p∈zE,P8 p) (J:∀x∈rl,yS x) (M:∀v∈dN,B8 v) (P:∀p∈dE,vK p)
 (r1:RP I (.sl (zT.map lR) none) c1) (r2:RP I (.sl (zE.map lR) none) c2) (r3:RP I (.sl (rl.map pF) none) c3) (r4:RP I (.sl (dN.map c8) none) c4) (r5:RP I (.sl (dE.map mr) none) c5):∃l,Rs gl l/\N8 ng I [.agg [c1,c2,c3,c4,c5]] H l:=by
 by_cases D:zT.length<=6/\zE.length<=6/\rl.length<=3/\dN.length<=4/\dE.length<=4;.exact axx A L q g F G pE J M P r1 r2 r3 r4 r5 D
 .exact⟨_,⟨[],[],[],[],[],false,rfl,λ h=>by cases h⟩,au0 g F r1 r2 r3 r4 r5 D⟩
end
end
section
variable{gl:aM}
noncomputable def R3:CC:=.seq (.seq (.ak Ow (some ([7,9,62],[]))) (.cond (.t 62) (.seq (.ak Lm (some ([2],[]))) (.ret)) (.skip))) (.seq (.ak O3 (some ([7,9,11],[]))) (.seq (.seq (.ak Sb (some ([7,9,11,64,65,66],[]))) (.block 0 (alo))) (.seq (.ak awh (some ([2],[]))) (.ret))))
abbrev ai7(n:Nat)(g:Nat->Nat->Nat)(e:Nat):List Int:=(List.range n).map λ f=>(g e f:Int)
abbrev aer(n:Nat)(g:Nat->Nat->Nat):ae:=.sl (((List.range n).map λ e=>ai7 n g e).map λ r=>[aD r]) none
abbrev aju(out:List (List Int)):ae:=.sl (out.map λ r=>[aD r]) none
abbrev ap6:ae:=.sl [[eI 0],[eI 2],[eI 1],[eI 3],[eI 5],[eI 4]] none
structure aru (n:Nat) (g:Nat->Nat->Nat) (out:List (List Int)):Prop where
 len:out.length=n
 le:∀e f,e<n->f<n->g e f<=5/\g f e=aek (g e f)/\(e=f->g e f=0)/\(g e f=1↔(e:Int)∈out.getD f [])
 ln:∀l∈out,l.length<=1000
def ax8(h:e<n):(((List.range n).map λ e=>ai7 n g e).map λ r=>[aD r])[e]? =some [aD (ai7 n g e)]:=by rw[bM,bM,Et h];rfl
def aqZ{f:Nat}(h:f<n):((ai7 n g e).map λ n=>[eI n])[f]? =some [eI (g e f:Int)]:=by rw[bM,bM,Et h];rfl
def aBI{x:Nat}(h:x<=5):([[eI 0],[eI 2],[eI 1],[eI 3],[eI 5],[eI 4]]:aS)[x]? =some [eI (aek x:Int)]:=by
 match x,h with
 |0,_=>rfl
 |1,_=>rfl
 |2,_=>rfl
 |3,_=>rfl
 |4,_=>rfl
 |5,_=>rfl
def aya:(((List.range n).map λ e=>ai7 n g e).map λ r=>[aD r]).length=n:=by simp
def azp:((ai7 n g e).map λ n=>[eI n]).length=n:=by simp
def aCv:cy af 8=true:=by kernel_rfl
def aBQ{b:Bool}:dn af .neq 4 (eB b) (eB b)=some (eB false):=by cases b<;>kernel_rfl
def aaJ(_:Nat)(_:Unit):Option (Unit⊕bZ):=some (.inl ())
def atx:∀l:List Nat,bP aaJ l ()=some (.inl ())
 |[]=>rfl
 |_::l=>atx l
abbrev X6(n:Nat)(g:Nat->Nat->Nat)(out:List (List Int))(i k:Nat):VT:=[(7,aer n g),(9,aju out),(11,ap6),(12,eI i),(64,aer n g),(65,eI n),(66,eI i),(76,aD (ai7 n g i)),(77,eI n),(78,eI k)]
abbrev s0:aq:=(aH [] [])
def aC3{n:Nat}(h:aru n g out)(hn:n<=60)(hi:i<n):
 aJ af gl (VW gl bV) 135 aot (X6 n g out i 0) s0=some (.exit 2,X6 n g out i n++[(79,eB false)],s0):=by
 have hL:=pg (P:=af) (gl:=gl) (Z7:=VW gl bV) (n:=135) (l:=List.range n) (C:=aot) (B:=alk) (f:=aaJ) (TT:=λ k _=>X6 n g out i k) (ST:=λ _=>s0) (X:=λ _=>(.exit 2,X6 n g out i n++[(79,eB false)],s0)) ?_ ?_ ?_ () _ (atx _);.exact hL
 .intro k s;rw[aC8];simp+decide only[VB,lk,aB,↓reduceIte,Nat.reduceBEq,Nat.reduceAdd,X6,s0]
 .intro x s k q hx;obtain rfl:=apD hx;rw[aD2]at q;obtain⟨c1,c2,c3,c4⟩:=h.le i k hi q;have D:((k:Int)<(n:Int))=True:=dw (by omega);have M:((g i k:Int)<0)=False:=b6 (by omega);have L:((g i k:Int)>5)=False:=b6 (by omega);have e1:((g k i:Int)=(aek (g i k):Int))=True:=dw (by rw[c2]);have Y:(out.map λ r=>[aD r])[k]? =some [aD (out.getD k [])]:=by rw[bM,pJ,cW (show k<out.length by rw[h.len];exact q)];rfl
  have F:(out.getD k []).length<=1000000:=by rw[pJ,cW (show k<out.length by rw[h.len];exact q)];have:=h.ln _ (xC (show k<out.length by rw[h.len];exact q));simp only[Eh];omega
  have Z:∀S,VW gl bV 8 [aD (out.getD k []),eI i] S=some (eB (decide ((g i k:Int)=1)),S,false):=λ S=>by
   rw[uZ (gl:=gl) (base:=bV) F]
   have:((out.getD k []).any λ y=>decide ((i:Int)=y))=decide ((g i k:Int)=1):=by
    rw[Bool.eq_iff_iff,NA];simp only[Ek];have c5:((g i k:Int)=1)↔g i k=1:=by omega
    rw[c5,c4];exact⟨λ ⟨y,h1,h2⟩=>by rw[h2];exact h1,λ h=>⟨_,h,rfl⟩⟩
   rw[this]
  have A:=gW (P:=af) (t:=3) (show k<=4611686018427387904 by omega);simp only[aaJ];by_cases G:i=k;.subst G;have e0:((g i i:Int)=0)=True:=dw (by rw[c3 rfl];rfl);have J:((i:Int)=(i:Int))=True:=dw rfl;simp+decide only[alk,VB,lk,aB,↓reduceIte,Nat.reduceBEq,Nat.reduceAdd,apS,avg,av5,ave,X6,s0,D,aY (aqZ q),aY (ax8 q),aY (aqZ hi),aY (aBI c1),aY Y,M,L,e1,e0,J,aya,azp,aI aCv,Z,aBQ,A]
  have J:((i:Int)=(k:Int))=False:=b6 (by omega);simp+decide only[alk,VB,lk,aB,↓reduceIte,Nat.reduceBEq,Nat.reduceAdd,apS,avg,av5,ave,X6,s0,D,aY (aqZ q),aY (ax8 q),aY (aqZ hi),aY (aBI c1),aY Y,M,L,e1,J,aya,azp,aI aCv,Z,aBQ,A]
 .intro s;rw[aD2];refine⟨?_,λ h=>by cases h⟩;simp+decide only[alk,VB,lk,aB,↓reduceIte,Nat.reduceBEq,Nat.reduceAdd,apS,jT,X6,s0]
abbrev Z4(n:Nat)(g:Nat->Nat->Nat)(out:List (List Int))(i:Nat):VT:=[(7,aer n g),(9,aju out),(11,ap6),(64,aer n g),(65,eI n),(66,eI i)]
def aC1{n:Nat}(h:aru n g out)(G:n<=60):
 aJ af gl (VW gl bV) 135 alo (Z4 n g out 0) s0=some (.exit 0,Z4 n g out n++[(67,eB false)],s0):=by
 have J:=pg (P:=af) (gl:=gl) (Z7:=VW gl bV) (n:=135) (l:=List.range n) (C:=alo) (B:=an1) (f:=aaJ) (TT:=λ i _=>Z4 n g out i) (ST:=λ _=>s0) (X:=λ _=>(.exit 0,Z4 n g out n++[(67,eB false)],s0)) ?_ ?_ ?_ () _ (atx _);.exact J
 .intro k s;rw[aCN];simp+decide only[VB,lk,aB,↓reduceIte,Nat.reduceBEq,Nat.reduceAdd,Z4,s0]
 .intro x s i hi F;obtain rfl:=apD F;rw[aD2]at hi;have D:((i:Int)<(n:Int))=True:=dw (by omega);have A:=gW (P:=af) (t:=3) (show i<=4611686018427387904 by omega);have q:=aC3 (gl:=gl) h G hi;simp only[X6,s0]at q;have q:aJ af gl (VW gl bV) 135 aot [(7,aer n g),(9,aju out),(11,ap6),(12,eI i),(64,aer n g),(65,eI n),(66,eI i),(76,aD (ai7 n g i)),(77,eI n),(78,eI 0)] _=_:=q;simp only[aaJ];simp+decide only[an1,VB,lk,aB,↓reduceIte,Nat.reduceBEq,Nat.reduceAdd,Ud,Ra,Rk,aAu,aBK,Z4,s0,D,aY (ax8 hi),aya,azp,q,A]
 .intro s;rw[aD2];refine⟨?_,λ h=>by cases h⟩;simp+decide only[an1,VB,lk,aB,↓reduceIte,Nat.reduceBEq,Nat.reduceAdd,Ud,jT,Z4,s0]
def aqC(h:aru n g out)(F:n<=60){x:aS}(D:y.length=n):
 aJ af gl (VW gl bV) 135 R3 [(5,.ptr 0 5 0),(7,aer n g),(8,eI 0),(9,aju out),(10,eI 0)] (aH [(5,[.sl x none,.sl y none])] [])=some (.ret,[(2,eB true)],s0):=by
 have q:=aC1 (gl:=gl) h F;simp only[Z4,s0]at q;have q:aJ af gl (VW gl bV) 135 alo [(7,aer n g),(9,aju out),(11,ap6),(64,aer n g),(65,eI n),(66,eI 0)] _=_:=q;have A:((n:Int)=(n:Int))=True:=dw rfl;have G:mM 1 (List.replicate 6 [ae.sc (.int .i64 0)]) [(0,eI 0),(1,eI 2),(2,eI 1),(3,eI 3),(4,eI 5),(5,eI 4)]=some [[eI 0],[eI 2],[eI 1],[eI 3],[eI 5],[eI 4]]:=rfl;simp+decide only[R3,G,VB,lk,aB,↓reduceIte,Nat.reduceBEq,Nat.reduceAdd,fD,fM,fO,ft,fo,eM,cm,dh,dC,dW,cM,je,aF,Ow,O3,Sb,awh,s0,aD2,h.len,D,A,q]
end
section
variable{ng:Nat}{gl:aM}
noncomputable def ab8(ng m:Nat):aW:=λ f args H=>if f=28\/f=29 then iv ng 1 f args H else oF ng m f args H
def aBl{f:FuncId}{H:ah}(q:f≠28)(h:f≠29):ab8 ng m f args H=oF ng m f args H:=by unfold ab8;rw[aj (by simp[q,h])]
def aDH:YB (ab8 ng m):=λ H s q fm g A D=>by obtain⟨H',h,r⟩:=arn (ng:=ng) 0 H s q fm g A D;exact⟨H',by unfold ab8;rw[ao (.inl rfl)];exact h,r⟩
def aCT:adZ (ab8 ng m):=λ H s q fm g A D=>by obtain⟨s',H',h,r⟩:=akj (ng:=ng) 0 H s q fm g A D;exact⟨s',H',by unfold ab8;rw[ao (.inr rfl)];exact h,r⟩
def aCL(A:∀m,mz ng gl (oK gl m) (oF ng m)){E:List El}(G:E.length<=1000)(L:∀y∈E,-1<=y.ev):∃M,∀m,M<=m->aAs ng gl (ab8 ng m) E:=by
 obtain⟨M,h⟩:=atP A (args:=[.sl (E.map El.c) none,.fn 26 []]) (λ S=>aCE (gl:=gl) (base:=bV) G L (S:=S)) rfl rfl;refine⟨M,λ m F I H s g J q D=>?_⟩;obtain⟨a,H',I',Z,Y,h3,_,_,_,P⟩:=h m F g J q (cf.2 ⟨s,_,rfl,anl D,cf.2 ⟨.func 26 [] [],_,rfl,by simp only[aA];exact⟨[],rfl,jI.2 rfl⟩,jI.2 rfl⟩⟩);obtain⟨rfl,_⟩:a=.bool false/\_:=by simpa only[aA]using P
 exact⟨H',by rw[aBl (by decide) (by decide)];exact Z,Y,h3⟩
def aDD(A:∀m,mz ng gl (oK gl m) (oF ng m)){x:Oc}(P:x.no.length<=1000)(Z:x.ed.length<=1000):∃M,∀m,M<=m->ar4 ng gl (ab8 ng m) x:=by obtain⟨M,h⟩:=atP A (args:=[.agg x.c]) (λ S=>E8 (gl:=gl) (base:=bV) aee P Z (S:=S)) rfl rfl;refine⟨M,λ m Y I H a b g hI q h1 h2=>?_⟩;obtain⟨v,H',I',L,J,G,k4,F,_,D⟩:=h m Y g hI q (cf.2 ⟨.agg [.int .i64 x.ru,a,b],_,rfl,by simp only[aA];exact⟨rfl,_,rfl,cf.2 ⟨_,_,rfl,by simp[aA,lX],cf.2 ⟨_,_,rfl,anl h1,cf.2 ⟨_,_,rfl,anl h2,jI.2 rfl⟩⟩⟩⟩,jI.2 rfl⟩);exact⟨v,H',by rw[aBl (by decide) (by decide)];exact L,J,G,aes F (by simpa only[aA]using D)⟩
def aCd{α:Type}{p:α->Nat->Prop}:∀{l:List α},(∀x∈l,∃M,∀m,M<=m->p x m)->∃M,∀m,M<=m->∀x∈l,p x m
 |[],_=>⟨0,λ m _ x h=>by cases h⟩
 |x::l,h=>by
  obtain⟨F,D⟩:=h x (cS ..);obtain⟨M2,A⟩:=aCd λ y q=>h y (cz _ q)
  exact⟨max F M2,λ m G y q=>by
   rcases ck.1 q with rfl|q
   .exact D m (by omega)
   exact A m (by omega) y q⟩
def aCQ(args:List ae):bV 6 args=none:=by unfold bV;rw[aj (by decide),aj (by decide),aj (by decide),aj (by decide),aj (by decide),aj (by decide),aj (by decide)]
def aDT(args:List ae):bV 7 args=none:=by unfold bV;rw[aj (by decide),aj (by decide),aj (by decide),aj (by decide),aj (by decide),aj (by decide),aj (by decide)]
inductive aeK (ng m:Nat):FuncId->List aa->ah->aa×ah->Prop
 |aw {args:List aa} {H:ah} {r:aa×ah} (h:AwR args H r):aeK ng m 5 args H r
 |made {args:List aa} {H:ah} {r:aa×ah} (h:fI af ng (oF ng m) 4 args H r):aeK ng m 4 args H r
 |rel {args:List aa} {H:ah} {r:aa×ah} (h:fI af ng (oF ng m) 6 args H r):aeK ng m 6 args H r
 |ani {args:List aa} {H:ah} {r:aa×ah} (h:fI af ng (ab8 ng m) 7 args H r):aeK ng m 7 args H r
theorem aeK.unique{f:FuncId}{H:ah}{s:aa×ah}(h:aeK ng m f args H r)(k:aeK ng m f args H s):r=s:=by
 cases h with
 |aw h=>cases k with|aw k=>cases h;cases k;rfl
 |made h=>cases k with|made k=>exact h.unique k
 |rel h=>cases k with|rel k=>exact h.unique k
 |ani h=>cases k with|ani k=>exact h.unique k
open Classical in
noncomputable def ou(ng m:Nat):aW:=λ f args H=>if h:∃r,aeK ng m f args H r then some (Classical.choose h)else if f=4\/f=5\/f=6\/f=7 then none else oF ng m f args H
def ar3{f:FuncId}{H:ah}(h:aeK ng m f args H r):ou ng m f args H=some r:=by have q:∃r,aeK ng m f args H r:=⟨_,h⟩;unfold ou;rw[xB q,(ui q).unique h]
def aa8{f:FuncId}{H:ah}(h:ou ng m f args H=some r):aeK ng m f args H r\/oF ng m f args H=some r:=by
 unfold ou at h;split at h;.rename_i q;cases h;exact .inl (ui q)
 split at h;.cases h
 exact .inr h
def aAr{f:FuncId}{args:List ae}{r:ae×List bI×Bool}(h:oK gl m f args S=some r):f≠4/\f≠5/\f≠6/\f≠7:=by
 cases m;.cases h
 rename_i m
 have q:∀g,bset g=true->(∀a,bV g a=none)->f≠g:=λ g D A e=>by
  subst e;simp only[oK,ji,D,A]at h;split at h;.rename_i e;cases e
  cases h
 exact⟨q 4 rfl awz,q 5 rfl aqV,q 6 rfl aCQ,q 7 rfl aDT⟩
def csT(A:∀m,mz ng gl (oK gl m) (oF ng m))(m:Nat):mz ng gl (oK gl m) (ou ng m):=by
 have q:∀{f args S r},oK gl m f args S=some r->ou ng m f=oF ng m f:=λ h=>by obtain⟨P,M,L,J⟩:=aAr h;funext a H;unfold ou;rw[dif_neg (λ ⟨r,k⟩=>by cases k<;>simp_all),aj (by simp[P,M,L,J])]
 exact⟨λ f args S v G dt h F D=>by rw[q h];exact(A m).plain f args S v G dt h F D,λ f args S v G dt h F D=>by rw[q h];exact(A m).open_ f args S v G dt h F D⟩
noncomputable def Tg:Code:=match Tryz.f3.body with
 |some (.seq _ (.seq _ (.seq _ (.seq _ (.seq _ c)))))=>c
 |_=>.skip
def aAZ:lU af (pol 3) Tg=some R3:=by kernel_rfl
def aDY{H:ah}:ir af Z7 6 l H=Z7 6 l H:=by simp only[ir,Tryz.func6];rfl
def aDi{H:ah}:ir af Z7 7 l H=Z7 7 l H:=by simp only[ir,Tryz.func7];rfl
section
variable{I:Im}{H:ah}{zT zE:List (Int×Int)}{rl:List nI}{dN:List Int}{dE:List (Int×Int×Int)}{c1 c2 c3 c4 c5:aa}
def aC9{gl:aM}{tn te:aS}{R:List RU}{lN:List Int}{lE:List Ed}{N:aT}(L:St R (fc lN lE) 8 N):
 (∀y∈N.E,-1<=y.ev)/\(∀k x,N.V[k]? =some x->amS N.E k x)/\(∀x∈N.V,(gO x).length<=20/\x.no.length<=1000/\x.ed.length<=1000)/\aru N.V.length (λ e f=>(adz N e f).getD 0) (ac4 N.E N.V [])/\∀e f,e<N.V.length->f<N.V.length->adz N e f=some ((adz N e f).getD 0):=by
 have J:=L.qB;have hc:=L.KZ.ca.2;have Z:∀k x,N.V[k]? =some x->amS N.E k x:=λ k x q=>uok J hc q
 obtain⟨P,M⟩:=azR Z N.V.length (be _);rw[aiw]at P M;have hl:azk N (ac4 N.E N.V []):=⟨M,λ k x q i=>P.mem k x (by rw[M];exact(mR.1 q).1) q i⟩;have A:=λ {e f} F D=>aDn (e:=e) (f:=f) J hc hl F D
 refine⟨λ y h=>?_,Z,λ x q=>?_,⟨M,λ e f F D=>?_,λ l hm=>?_⟩,λ e f F D=>?_⟩
 .obtain⟨m,e1,e2⟩:=L.KZ.split;rw[e1]at h;rcases jA.1 h with h|h
  .rw[XO y h];decide
  have:=e2 y h;omega
 .obtain⟨r,hr,G,Y⟩:=(J.oc x q).ru;have ro:=J.ro r (ni hr);have:=ro.ln;have:=ro.le;refine⟨?_,by omega,by omega⟩;unfold gO;rw[dM];omega
 .obtain⟨x,y,G,Y,k3,k4,k5,k6⟩:=A F D;simp only[G,Y,Eh];exact⟨k3,k4,k5,k6⟩
 .obtain⟨i,hi⟩:=aBi.1 hm;have:=P.len i l hi;have:=(mR.1 hi).1;have:=L.ml;omega
 .obtain⟨x,y,G,_⟩:=A F D;rw[G];rfl
def akC(J:∀m,mz ng gl (oK gl m) (oF ng m))(hT:AE gl)(F:kJ ng gl (AN I))(g:Good H)(hI:cu I H.objs.get)(h0:H.objs.get 0=some kD)
 (pT:∀p∈zT,P8 p) (pE:∀p∈zE,P8 p) (hd:∀x∈rl,yS x) (hN:∀v∈dN,B8 v) (hE:∀p∈dE,vK p)
 (r1:RP I (.sl (zT.map lR) none) c1) (r2:RP I (.sl (zE.map lR) none) c2) (r3:RP I (.sl (rl.map pF) none) c3) (r4:RP I (.sl (dN.map c8) none) c4) (r5:RP I (.sl (dE.map mr) none) c5)
 (oc:[c1,c2,c3,c4,c5].all aa.eh=true):∃m r,fI af ng (ou ng m) 3 [.agg [c1,c2,c3,c4,c5]] H r/\r.1=.bool true:=by
 have f0:=gH g [c1,c2,c3,c4,c5] true 1;have g0:=gD g [c1,c2,c3,c4,c5] true 1;have o2:=ic H [c1,c2,c3,c4,c5] true 1;generalize aD:alloc H [c1,c2,c3,c4,c5] true 1=H1 at*;have bk:H1.next=H.next+1:=by rw[<-aD];rfl
 have a9:cu I H1.objs.get:=λ u r e=>f0.row u r (hI u r e) (by simp)
 obtain⟨l,⟨tn,te,R,E,V,b,rfl,ag⟩,M,hM⟩:=akx J hT F g0 a9 pT pE hd hN hE r1 r2 r3 r4 r5
 have al:∃L,∀m,L<=m->b=true->∃(n:Nat) (gg:Nat->Nat->Nat) (out:List (List Int)),V.length=n/\
  (∀{I:Im} {H:ah} {xs:List aa},Good H->cu I H.objs.get->kJ ng gl (AN I)->bB ρ0 I [iK tn te,ll R,o9 E V] xs->∃s H' I',fI af ng (oF ng m) 6 xs H (.tuple [s,.int .i64 0],H')/\Good H'/\Fr none H H'/\cu I I'/\cu I' H'.objs.get/\(∀w r,I' w=some r->w<H.next->I w=some r)/\RP I' (aer n gg) s)/\
  (∀{I:Im} {H:ah} {sL sV:aa},Good H->cu I H.objs.get->kJ ng gl (AN I)->RP I (.sl (E.map El.c) none) sL->RP I (.sl (V.map Oc.c) none) sV->∃r,fI af ng (ab8 ng m) 7 [.agg [sL,sV]] H r/\Fr none H r.2/\Good r.2/\∃s,r.1=.tuple [s,.int .i64 0]/\(ns (ns uG)).rel r.2.objs.get (λ f=>f<H.next+1) out [s])/\
  ∀{D:Nat} {G:Gh} {T':Tr aa} {H:ah},Ok ng gl D G [(5,.ptr 0 5 0),(7,aer n gg),(8,eI 0),(9,aju out),(10,eI 0)] T' (aH [(5,[.sl (E.map El.c) none,.sl (V.map Oc.c) none])] []) H->
  ∀{Q:eE->Tr aa->ah->Prop},(∀Y H2,aw Y 2=.bool true->Q .ret Y H2)->W af ng (ou ng m) 135 Tg T' H Q:=by
  cases b;.exact⟨0,λ m _ h=>by cases h⟩
  .obtain⟨⟨lN,lE,N,rfl,rfl,hS,hl,bd,bc,bb⟩,bi,bn⟩:=ag rfl;obtain⟨n1,n2,n3,n4,n5⟩:=aC9 (gl:=gl) (tn:=tn) (te:=te) hS;have bl:=hS.ml;have bh:=hS.len;obtain⟨M1,h1⟩:=aDs J hT hS (by decide) bd bc bb n5;obtain⟨M2,h2⟩:=aCL (ng:=ng) J (show N.E.length<=1000 by omega) n1;obtain⟨L,h3⟩:=aCd (l:=N.V) (p:=λ x m=>ar4 ng gl (ab8 ng m) x) λ x hx=>aDD J (n3 x hx).2.1 (n3 x hx).2.2
   obtain⟨M4,h4⟩:=afz (csT J) aAZ (aqC (gl:=gl) n4 (by omega) (x:=N.E.map El.c) (y:=N.V.map Oc.c) (by rw[aF]));refine⟨M1+M2+L+M4,λ m hm _=>⟨N.V.length,_,_,rfl,h1 m (by omega),λ g hI F k1 k2=>?_,λ aj Q hQ=>h4 m (by omega) aj λ Y H2 G2 k _=>hQ Y H2 ?_⟩⟩;.exact aDM (h2 m (by omega)) (h3 m (by omega)) aDH aCT g hI F k1 k2 (by omega) (by omega) n1 n2 (λ x hx=>(n3 x hx).1)
   have:=(k.tmp 2 (eB true) rfl).1;simp only[aA]at this;exact this.1
 obtain⟨L,a7⟩:=al;refine⟨max M L,?_⟩;obtain⟨⟨rv,H4⟩,bg,g4,aJ,I2,xs,ao,nJ,ar,au⟩:=hM (max M L) (BE _ _);simp only at g4 aJ nJ au;subst au;have aq:=ar;obtain⟨a1,a2,s,b1,b2,rfl,p1,p2,ps,q1,q2,i1,i2,i3,i4⟩:=asY ar;have a6:ou ng (max M L) 4 [.agg [c1,c2,c3,c4,c5]] H1=some (.tuple [.agg [a1,a2],s,.agg [b1,b2],.bool b],H4):=ar3 (.made bg);have a0:aw (fH [.agg [c1,c2,c3,c4,c5]] 0 .nil) 0=.agg [c1,c2,c3,c4,c5]:=rfl;have P:(aa.agg [c1,c2,c3,c4,c5]).cells=[c1,c2,c3,c4,c5]:=rfl;have a3:(aa.agg [.ai,.ai]).cells=[.ai,.ai]:=rfl;refine qn Tryz.func3 rfl ?_;show W af ng _ 135 _ _ _ _;refine aO (bW (H':=H1) (λ T=>aw T 1=.ptr H.next 0) ?_ ?_)
 ·(repeat ((first|apply bA (br rfl)|apply bO rfl rfl rfl);simp+decide only[AB,a0,P,aD];rfl))
  exact bF (by simp+decide only[AB])
 intro T1 t1 k1;have aQ:bq H1.objs.get H.next 0 5=some [c1,c2,c3,c4,c5]:=o2.rd (by simp);have f3:=gH g4 [.ai,.ai] true 1;have g3:=gD g4 [.ai,.ai] true 1;have f5:=gH g3 [.ai,.ai] true 1;have g5:=gD g3 [.ai,.ai] true 1;have o3:=(ic H4 [.ai,.ai] true 1).keep f5 (by simp);have o5:=ic (alloc H4 [.ai,.ai] true 1) [.ai,.ai] true 1;have m5:=wN (alloc H4 [.ai,.ai] true 1) [.ai,.ai] true 1;have ax:(alloc H4 [.ai,.ai] true 1).next=H4.next+1:=rfl
 generalize aB:alloc (alloc H4 [.ai,.ai] true 1) [.ai,.ai] true 1=H6 at*;have bj:H6.next=H4.next+2:=by rw[<-aB];rfl
 rw[ax]at o5 m5;obtain⟨H7,z1,z2,z3,z4,z5⟩:=lO g5 o3 (off:=0) (new:=[a1,a2]) (by simp) (by simp[i1,i2]);have s1:dJ af H6 31 (.ptr H4.next 0) (.agg [a1,a2])=some H7:=by rw[J3];exact z1
 have z3:Fr (some H4.next) H6 H7:=z3;have aU:=o5.keep z3 (λ e=>by have h:H4.next+1=H4.next:=dU e;omega);obtain⟨H8,w1,w2,w3,w4,w5⟩:=lO z5 aU (off:=0) (new:=[b1,b2]) (by simp) (by simp[i3,i4]);have s2:dJ af H7 36 (.ptr (H4.next+1) 0) (.agg [b1,b2])=some H8:=by rw[ahR];exact w1
 have w3:Fr (some (H4.next+1)) H7 H8:=w3;refine aO (bW (H':=H8) (λ T=>aw T 3=.ptr H4.next 0/\aw T 4=s/\aw T 5=.ptr (H4.next+1) 0/\aw T 6=.bool b) ?_ ?_)
 ·(repeat ((first|apply bA (br rfl)|apply bO rfl rfl rfl);simp+decide only[AB,t1,apW aQ,jS,oq,aou,a6,aiB,aiC,CK,TH,a3,ax,aB,s1,s2];rfl))
  exact bF ⟨by simp+decide only[AB],by simp+decide only[AB],by simp+decide only[AB],by simp+decide only[AB]⟩
 rintro T2 ⟨t3,t4,t5,t6⟩ k2
 have z2:jh H7 H4.next (qA H4.next a1 a2):=z2;have aV:=z2.keep w3 (λ e=>by have h:H4.next=H4.next+1:=dU e;omega);have ae:jh H8 (H4.next+1) (qA (H4.next+1) b1 b2):=w2;have ac:∀u r,H4.objs.get u=some r->H8.objs.get u=some r:=λ u r e=>by have hw:=g4.wf u r e;exact w3.row u r (z3.row u r (f5.row u r (f3.row u r e (by simp)) (by simp)) (λ e=>by have h:r.aC=H4.next:=dU e;omega)) (λ e=>by have h:r.aC=H4.next+1:=dU e;omega)
 have ba:H8.objs.get 0=some kD:=ac _ _ (aJ.row _ _ (f0.row _ _ h0 (by simp)) (by simp));have ay:ou ng (max M L) 5 [] H8=some (.bool true,H8):=ar3 (.aw (.mk ba));refine aO (aO (bW (H':=H8) (λ T=>aw T 28=.bool (!b)) ?_ ?_))
 ·(repeat ((first|apply bA (br rfl)|apply bO rfl rfl rfl);simp+decide only[AB,t6,jS,oq,YN,ay,Vx];rfl))
  exact bF (by simp+decide only[AB])
 intro T3 aK k3;have y3:=(k3 3 rfl).trans t3;have y4:=(k3 4 rfl).trans t4;have y5:=(k3 5 rfl).trans t5;refine jZ (by rw[mc,aK]) (λ hb=>?_) (λ hb=>kH ?_)
 .refine aO (bW (H':=H8) (λ T=>aw T 2=.bool true) ?_ ?_)
  ·(repeat ((first|apply bA (br rfl)|apply bO rfl rfl rfl);simp+decide only[AB,jS,oq,YN,ay];rfl))
   exact bF (by simp+decide only[AB])
  intro T4 t2 _;exact oR ⟨by simp,[.bool true],by show jL af H8.objs.get T4 [.tmp 2]=_;simp only[jL,t2],rfl⟩
 have hb:b=true:=by cases b<;>simp_all
 obtain⟨n,gg,out,bm,az,aE,hW⟩:=a7 (max M L) (xw _ _) hb;have a8:cu I2 H8.objs.get:=λ u r e=>ac u r (nJ u r e)
 have ab:kJ ng gl (AN I2):=F.mono (G':=AN I2) ao;obtain⟨s7,H9,I9,bf,g9,f9,A,ap,atf,aP⟩:=az w5 a8 ab (by obtain⟨_,l1,e1,x1,x2⟩:=cf.1 aq;obtain⟨rfl,rfl⟩:=aD8 e1;obtain⟨_,l2,e2,x3,x4⟩:=cf.1 x2;obtain⟨rfl,rfl⟩:=aD8 e2;obtain⟨_,l3,e3,x5,x6⟩:=cf.1 x4;obtain⟨rfl,rfl⟩:=aD8 e3;exact cf.2 ⟨_,_,rfl,x1,cf.2 ⟨_,_,rfl,x3,cf.2 ⟨_,_,rfl,x5,jI.2 rfl⟩⟩⟩)
 have a5:ou ng (max M L) 6 [.agg [a1,a2],s,.agg [b1,b2]] H8=some (.tuple [s7,.int .i64 0],H9):=ar3 (.rel bf);have aR:bq H8.objs.get H4.next 0 2=some [a1,a2]:=aV.rd (by simp);have Dj:∀{K:ah},Fr none H8 K->bq K.objs.get (H4.next+1) 0 2=some [b1,b2]:=λ fK=>(ae.keep fK (by simp)).rd (by simp)
 refine aO (bW (H':=H9) (λ T=>aw T 7=s7/\aw T 8=.int .i64 0) ?_ ?_)
 ·(repeat ((first|apply bA (br rfl)|apply bO rfl rfl rfl);simp+decide only[AB,y3,y4,y5,N7 aR,arE (Dj (Fr.refl none H8)),jS,oq,aDY,a5,aiB,aiC];rfl))
  exact bF ⟨by simp+decide only[AB],by simp+decide only[AB]⟩
 rintro T5 ⟨t7,t8⟩ k5
 have v5:=(k5 5 rfl).trans y5;obtain⟨⟨rc,H10⟩,be,ak,aI,s9,av,Z⟩:=aE g9 ap (ab.mono (G':=AN I9) A) (pU A _ _ q1) (pU A _ _ q2);simp only at av ak aI Z;subst av;have a4:ou ng (max M L) 7 [.agg [b1,b2]] H9=some (.tuple [s9,.int .i64 0],H10):=ar3 (.ani be);refine aO (bW (H':=H10) (λ T=>aw T 9=s9/\aw T 10=.int .i64 0) ?_ ?_)
 ·(repeat ((first|apply bA (br rfl)|apply bO rfl rfl rfl);simp+decide only[AB,v5,arE (Dj f9),jS,oq,aDi,a4,aiB,aiC];rfl))
  exact bF ⟨by simp+decide only[AB],by simp+decide only[AB]⟩
 rintro T6 ⟨t9,aL⟩ k6
 have x5:=(k6 5 rfl).trans v5;have x7:=(k6 7 rfl).trans t7;have x8:=(k6 8 rfl).trans t8;show W af ng _ 135 Tg _ _ _;have ad:Fr none H8 H10:=f9.trans ak;have am:=ae.keep ad (by simp);have aX:H10.aG.get (H4.next+1)=some [H4.next+1]:=ad.aG _ _ (by rw[Nf w1,Nf z1];exact m5) (by simp);have aZ:H4.next+1<H8.next:=(w5.wf _ _ ae.row).1;obtain⟨I',j1,j2,j3⟩:=aCf (K:=H10) λ u=>u=H4.next+1
 have an:I2 (H4.next+1)=none:=by
  cases e:I2 (H4.next+1);.rfl
  rename_i r;have:=(g4.wf _ _ (nJ _ _ e)).1;omega
 have q:cu I9 I':=λ u r e=>j1 u r (ak.row u r (ap u r e) (by simp)) (λ h=>by subst h;rw[atf _ _ e aZ]at an;cases an)
 have aN:RP I' (aju out) s9:=aaw (ahL wE) (λ u r e hn=>j1 u r e (λ h=>by subst h;rw[am.row]at e;cases e;exact hn (by show H4.next+1<H9.next+1;have:=f9.next;omega))) Z
 have aY:cu I I':=(ao.trans A).trans q
 have aj:=okN (ng:=ng) (gl:=gl) aI (F.mono aY) j2 (bs:=[⟨5,[.sl (E.map El.c) none,.sl (V.map Oc.c) none],H4.next+1⟩]) (T:=[(5,.ptr 0 5 0),(7,aer n gg),(8,eI 0),(9,aju out),(10,eI 0)]) (T':=T6) (λ c hc=>by
  obtain rfl:=dp.1 hc;exact⟨⟨_,am.row,rfl,rfl,rfl,b1,_,rfl,.inl (pU (A.trans q) _ _ q1),b2,_,rfl,.inl (pU (A.trans q) _ _ q2),rfl⟩,aX,j3 _ rfl⟩)
  (λ c hc d hd _=>by obtain rfl:=dp.1 hc;obtain rfl:=dp.1 hd;rfl)
  (λ p hp=>by
   simp only[ck,lB,l7]at hp;rcases hp with rfl|rfl|rfl|rfl|rfl
   .exact .inl ⟨5,H4.next+1,rfl,rfl,x5⟩
   .exact .inr ⟨by rw[x7];exact anl (pU q _ _ aP),rfl⟩
   .exact .inr ⟨by rw[x8];simp[aA,lX],rfl⟩
   .exact .inr ⟨by rw[t9];exact anl aN,rfl⟩
   exact .inr ⟨by rw[aL];simp[aA,lX],rfl⟩)
 refine hW aj λ T9 H9 h2=>?_
 exact⟨by simp,[.bool true],by show jL af H9.objs.get T9 [.tmp 2]=_;simp only[jL,h2],rfl⟩
end
end
def JN(kD:Row):Prop:=∀(H:ah),H.objs.get 0=some kD->∀B ρ w h,jj B 1 ρ H w->cJ ρ [] h->Calls af 5 ⟨h⟩ w (λ e w'=>∃x,e=.returned x/\bj ρ (.bool true) x/\cp B 1 H.objs.get H.next H.next ρ w H.objs.get H.aG.get ρ w')
def Fj:∀k,gS (mE af ng (aV ng) k)
 |0=>λ _ _ _ _ _ h=>by cases h
 |k+1=>Zi ai6 (Fj k)
def Qc(q:sK af):∀k,jN af ng (mE af ng (aV ng) k)
 |0=>λ _ _ _ _ _ h=>by cases h
 |k+1=>W9 (anw q) (Qc q k) (Fj k) q
def aBJ:gS (ab8 ng m):=λ f args H v H' h=>by
 unfold ab8 at h;split at h;.exact GQ 1 _ _ _ _ _ h
 exact Fj m _ _ _ _ _ h
def aDN(q:sK af):jN af ng (ab8 ng m):=λ f args H v H' h=>by
 unfold ab8 at h;split at h;.exact Uz q 1 _ _ _ _ _ h
 exact Qc q m _ _ _ _ _ h
def ajM:gS (ou ng m):=λ f args H v H' h=>by
 rcases aa8 h with k|k
 .cases k with
  |aw k=>cases k;exact gG.refl _
  |made k=>exact agR (Fj m) k
  |rel k=>exact agR (Fj m) k
  |ani k=>exact agR aBJ k
 exact Fj m _ _ _ _ _ k
def asg(G:JN kD)(q:sK af):jN af 1 (ou 1 m):=λ f args H v H' h=>by
 rcases aa8 h with k|k
 .cases k with
  |aw k=>cases k with
   |mk h0=>exact λ B ρ w D s wf A F=>(G H h0 B ρ w D s F).mono λ e w' ⟨x,L,J,h3⟩=>⟨x,ρ,L,J,h3⟩
  |made k=>exact OX (Qc q m) (Fj m) q k
  |rel k=>exact OX (Qc q m) (Fj m) q k
  |ani k=>exact OX (aDN q) aBJ q k
 exact Qc q m _ _ _ _ _ k
noncomputable def IQ:aM:=λ g=>if g=0 then some zV else none
def atG:AE IQ:=rfl
theorem Wx:∀l:List Nat,cE I (l.map λ n:Nat=>(.sc (.int .u8 (n:Int)):ae)) (l.map λ n=>aa.int .u8 (.ofNat n))
 |[]=>by simp[cE]
 |a::l=>by simp only[fL,cE];exact⟨_,_,rfl,by simp[RP,lX],Wx l⟩
theorem abi:Oi=tab:=rfl
theorem aA1(h0:I 0=some kD):kJ 1 IQ (AN I):=λ g cs e=>by
 unfold IQ at e;split at e;.rename_i h;subst h;cases e;refine⟨by decide,kD,h0,by simp[kD,abi],?_⟩;grind[List.take_of_length_le,kD,abi,Wx,tab]
 cases e
def azG(ha:JN kD)(D:sK af){H:ah}(g:Good H)(Z:cu I H.objs.get)(h0:I 0=some kD){zT zE:List (Int×Int)}{rl:List nI}{dN:List Int}{dE:List (Int×Int×Int)}{Y P M L J:aa}
 (pT:∀p∈zT,P8 p) (pE:∀p∈zE,P8 p) (hd:∀x∈rl,yS x) (hN:∀v∈dN,B8 v) (hE:∀p∈dE,vK p)
 (r1:RP I (.sl (zT.map lR) none) Y) (r2:RP I (.sl (zE.map lR) none) P) (r3:RP I (.sl (rl.map pF) none) M) (r4:RP I (.sl (dN.map c8) none) L) (r5:RP I (.sl (dE.map mr) none) J)
 (oc:[Y,P,M,L,J].all aa.eh=true) {B:Nat} {ρ:cr} {w:World} {G:List Value} (s:jj B 1 ρ H w) (q:∀v,H.next<=v->ρ v=none) (hx:cJ ρ [.agg [Y,P,M,L,J]] G):
 Calls af 3 ⟨G⟩ w (λ e w'=>e=.returned (.bool true)/\w'.os=w.os/\w'.tape=w.tape/\w'.output=w.output/\w.heap.size<=w'.heap.size/\∀b,b<B->w'.heap[b]? =w.heap[b]?):=by
 obtain⟨m,⟨v,H'⟩,h3,A⟩:=akC (ng:=1) (gl:=IQ) (λ m=>Ya aum m) atG (aA1 h0) g Z (Z _ _ h0) pT pE hd hN hE r1 r2 r3 r4 r5 oc;simp only at A;subst A;refine(OX (asg ha D) ajM D h3 B ρ w G s g.wf (λ v h _=>q v h) hx).mono λ e w' ⟨x,ρ',he,A,F⟩=>?_
 have A:x=.bool true:=A;subst A;exact⟨he,F.os,F.tape,F.output,F.size,cp.below s F⟩
end
end Go.Abs
