/- The law at arguments that are read. -/
import Derived.Test.YtkencjbbibdamaaGreatDoorJ
import Derived.Test.YtkencjbbibdamaaGreatDoorV
import Derived.Deep.Slices
import Derived.Deep.Fields
import Derived.ChangeSame
import Derived.OpenShut
import Derived.Below
set_option linter.all false
namespace Go.Abs
noncomputable section
open Go Go.ChangeShapes Go.Deep Go.WideShapes
variable{F:Nat->aa}{V:Nat->Value}{e t:TypeId}{i k n q:Nat}{v:Value}{ρ:cr}
section
variable{fs:Array Field}{r:Row}
section
variable{H:Type}{enc:TypeId×Value->H}{P:Program}{w:World}{held:Bool}
def Wt(P:Program)(t:TypeId)(d:DataW H):Prop:=∀x∈d.weights P t,x<=reachBytes
theorem acf:∀{l:List (DataW H)} {d:DataW H} {x:Nat},d∈l->x∈d.weights P e->x∈DataW.weightsAll P e l
 |a::l,d,x,h,y=>by
  simp only[DataW.weightsAll,jA];rcases ck.1 h with rfl|h
  .exact .inl y
  exact .inr (acf h y)
 |[],_,_,h,_=>by cases h
theorem ab0:∀{ts:List TypeId} {y:List (DataW H)} {j:Nat} {t:TypeId} {d:DataW H} {x:Nat},ts[j]? =some t->y[j]? =some d->x∈d.weights P t->x∈DataW.weightsEach P ts y
 |[],_,_,_,_,_,a,_,_=>by simp at a
 |_::_,[],_,_,_,_,_,h,_=>by simp at h
 |t::ts,d::y,0,_,_,x,a,h,A=>by grind[DataW.weightsEach]
 |t::ts,d::y,j+1,_,_,x,a,h,A=>by simp at a h;simp only[DataW.weightsEach,jA];exact .inr (ab0 a h A)
theorem Wt.slice{elems a:List (DataW H)}(y:P.underlying t=some (.slice e))(h:Wt P t (.slice elems a)):(elems.length+a.length)*P.bytesOf e<=reachBytes/\∀d∈elems,Wt P e d:=by unfold Wt at h⊢;grind[DataW.weights,List.mem_cons_self,acf]
def Wt.struct{a:List (DataW H)}(A:P.underlying t=some (.struct fs))(h:Wt P t (.agg a)){j:Nat}{f:Field}{d:DataW H}(D:fs[j]? =some f)(G:a[j]? =some d):Wt P f.type d:=by unfold Wt at h⊢;simp only[DataW.weights,A]at h;intro x y;exact h x (ab0 (by simpa using⟨f,D,rfl⟩) G y)
theorem DB{a:Addr}(h:w.cell? (a.add i)=some v):∃C ty fz,w.heap[a.block]? =some (.cells C ty fz)/\C[a.off+i]? =some v/\(i=0->a.spot=none):=by
 have D:(a.add i).block=a.block:=by grind[Addr.add]
 have y:(a.add i).off=a.off+i:=by grind[Addr.add]
 unfold World.cell? at h;rw[D,y]at h;split at h
 .rename_i C ty fz A;split at h;.cases h
  rename_i G;refine⟨C,ty,fz,A,h,λ e=>?_⟩;subst e;have:a.add 0=a:=by simp[Addr.add]
  simp_all
 cases h
def lI(w:World)(k:Nat)(c:Value)(len:Nat)(V:Nat->Value):Prop:=
 (c=.slice none 0 0/\len=0)\/(∃a cap,c=.slice (some a) 0 cap/\len=0)\/
 ∃b off cap C ty fz,c=.slice (some ⟨b,off,none⟩) len cap/\0<len/\len<=cap/\w.heap[b]? =some (.cells C ty fz)/\off+cap*k<=C.size/\∀q,q<len*k->C[off+q]? =some (V q)
theorem ark{c:Value}{y:DataW H×List MemPlace}(ht:P.underlying t=some (.slice e))(he:P.underlying e=some (.struct fs))(S:oneCellFields P fs=true)(hC:P.cellsOf e=fs.size)(K:0<fs.size)
 (h:DataW.trod enc P w 0 (λ _=>true) held n t [c]=some y) (hw:Wt P t y.1):
 ∃len V,lI w fs.size c len V/\∀i j f,i<len->fs[j]? =some f->∃m z,DataW.trod enc P w 0 (λ _=>true) held m f.type [V (i*fs.size+j)]=some z/\Wt P f.type z.1:=by
 rcases open_slice ht h with⟨hc,_⟩|⟨a,len,cap,m,n',D,Pl,M,_,hl,_,hm,hx,hi⟩
 .simp only[rG,rO]at hc;exact⟨0,λ _=>.bool false,.inl ⟨hc,rfl⟩,λ i j f hi=>by omega⟩
 .simp only[rG,rO]at M;simp only[jz]at hm;subst hm;rw[hC]at hi;have ab:∀i,i<m->∃A,A.length=fs.size/\(∀j,j<fs.size->w.cell? (a.add (i*fs.size+j))=A[j]?)/\DataW.trod enc P w 0 (λ _=>true) held n' e A=some (D i,Pl i):=by intro i ah;obtain⟨A,h1,h2⟩:=hi i ah;obtain⟨_,h3,h4⟩:=World.cells?_some h1;grind[add_add]
  rcases aiR len with h0|hlen
  .subst h0;exact⟨0,λ _=>.bool false,.inr (.inl ⟨a,m,M,rfl⟩),λ i j f hi=>by omega⟩
  ·
   have G:∀q,q<m*fs.size->∃v,w.cell? (a.add q)=some v:=by intro q hq;have hi:q/fs.size<m:=(aBj K).2 hq;have hj:q%fs.size<fs.size:=Nat.mod_lt _ K;grind[Nat.div_add_mod]
   have ag:0<m*fs.size:=Nat.mul_pos (by omega) K;obtain⟨v0,ae⟩:=G 0 ag;obtain⟨C,ty,fz,hb,_,af⟩:=DB ae;have J:=af rfl;have an:∀q v,w.cell? (a.add q)=some v->C[a.off+q]? =some v:=by grind[DB]
   have L:a.off+m*fs.size<=C.size:=by obtain⟨v,hv⟩:=G (m*fs.size- 1) (by omega);grind
   refine⟨len,λ q=>(w.cell? (a.add q)).getD (.bool false),.inr (.inr ⟨a.block,a.off,m,C,ty,fz,?_,hlen,hl,hb,L,λ q hq=>?_⟩),λ i j f ai Z=>?_⟩;.rw[M];cases a;simp only at J;rw[J]
   .have am:len*fs.size<=m*fs.size:=mQ _ hl;obtain⟨v,hv⟩:=G q (by omega);grind
   obtain⟨A,h1,h2,h3⟩:=ab i (by omega);obtain⟨Y,n2,_,ac,_,al,aj⟩:=DataW.trod_struct he h3;have hj:j<fs.size:=(BI.1 Z).1;obtain⟨ho,hk⟩:=hone_of S j f Z;have h4:=aj j f Z;rw[ho,hk,take1_drop A j (.bool false) (by omega)]at h4;have hv:=h2 j hj;simp only[hv];rw[show A[j]?.getD (.bool false)=A.getD j (.bool false)from by simp[List.getD]];have ad:Y[j]? =some (Y[j]'(by omega)):=cW (by omega);refine⟨n2,Y[j]'(by omega),h4.trans ad,?_⟩;have hy:y.1=.slice ((List.range len).map D) ((List.range (m-len)).map λ j=>D (len+j)):=by rw[hx]
   rw[hy]at hw;have N:=(hw.slice ht).2 (D i) (eK.2 ⟨i,by simpa using ai,rfl⟩);have ak:D i=.agg (Y.map (·.1)):=(xE ac).1;rw[ak]at N;exact N.struct he Z (by grind)
theorem adE{c:Value}{y:DataW H×List MemPlace}(Y:P.underlying t=some (.slice e))(hC:P.cellsOf e=1)(h:DataW.trod enc P w 0 (λ _=>true) held n t [c]=some y)(S:Wt P t y.1):
 ∃len V,lI w 1 c len V/\len*P.bytesOf e<=reachBytes/\∀i,i<len->∃m z,DataW.trod enc P w 0 (λ _=>true) held m e [V i]=some z/\Wt P e z.1:=by
 rcases open_slice1 Y hC h with⟨hc,_⟩|⟨a,len,cap,m,n',V,D,Pl,J,_,hl,_,Z,hx,hi⟩
 .simp only[rG,rO]at hc;exact⟨0,λ _=>.bool false,.inl ⟨hc,rfl⟩,by simp,λ i hi=>by omega⟩
 .simp only[rG,rO]at J;simp only[jz]at Z;subst Z;have hy:y.1=.slice ((List.range len).map D) ((List.range (m-len)).map λ j=>D (len+j)):=by rw[hx]
  rw[hy]at S;obtain⟨ac,ab⟩:=S.slice Y;have hb:len*P.bytesOf e<=reachBytes:=by grind
  rcases aiR len with h0|hlen
  .subst h0;exact⟨0,λ _=>.bool false,.inr (.inl ⟨a,m,J,rfl⟩),hb,λ i hi=>by omega⟩
  obtain⟨L,_⟩:=hi 0 (by omega);obtain⟨C,ty,fz,N,_,M⟩:=DB L;have A:=M rfl;have K:∀q,q<m->C[a.off+q]? =some (V q):=by grind[DB]
  have G:a.off+m*1<=C.size:=by have:=(BI.1 (K (m- 1) (by omega))).1;omega
  refine⟨len,V,.inr (.inr ⟨a.block,a.off,m,C,ty,fz,?_,hlen,hl,N,G,λ q hq=>K q (by omega)⟩),hb,λ i ad=>?_⟩;.rw[J];cases a;simp only at A;rw[A]
  grind
end
def kz(id:Nat):Value->aa
 |.slice (some _) 0 _=>.dq
 |.slice (some _) (n+1) _=>.slice id 0 (n+1) none
 |_=>.ai
def tY(k:Nat):Value->Option Loc
 |.slice (some a) (_+1) cap=>some ⟨a.block,a.off,cap*k,k⟩
 |_=>none
def lW(k:Nat)(F:Nat->aa):Value->Option Row
 |.slice (some _) (n+1) _=>some ⟨(List.range ((n+1)*k)).map F,0,0,false,true,k⟩
 |_=>none
theorem Cc{c:Value}(h:lW k F c=some r):r.ro=true/\r.aC=0:=by unfold lW at h;grind
theorem lI.bj{w:World}{c:Value}{len:Nat}(h:lI w k c len V)(K:0<k){id:Nat}(A:ρ id=tY k c):bj ρ (kz id c) c:=by
 rcases h with⟨rfl,_⟩|⟨a,cap,rfl,_⟩|⟨b,off,cap,C,ty,fz,rfl,y,J,L,D,G⟩
 .exact rfl
 .exact⟨a,cap,rfl⟩
 match len,y with
 |n+1,_=>
  refine⟨⟨b,off,cap*k,k⟩,A,?_⟩;grind[Nat.mul_div_cancel]
theorem lI.row{w:World}{c:Value}{len:Nat}(h:lI w k c len V){B:Nat}{id:Nat}(A:ρ id=tY k c)(S:∀q,q<len*k->Abs.bj ρ (F q) (V q))(D:lW k F c=some r):
 ∃l C e fz,ρ id=some l/\w.heap[l.bC]? =some (.cells C e fz)/\wM B ρ r l C fz:=by
 rcases h with⟨rfl,_⟩|⟨a,cap,rfl,_⟩|⟨b,off,cap,C,ty,fz,rfl,y,K,L,J,M⟩
 .cases D
 .cases D
 .match len,y with
  |n+1,_=>
   cases D;have G:(n+1)*k<=cap*k:=mQ _ K;refine⟨⟨b,off,cap*k,k⟩,C,ty,fz,A,L,⟨by simpa using G,J,(λ h=>by cases h),rfl,(λ h=>by cases h),(λ h=>by cases h),λ i c N=>?_⟩⟩;grind
theorem lI.read{w:World}{c:Value}{len:Nat}(h:lI w k c len V){g:Nat->Option Row}{id:Nat}(A:g id=lW k F c):jd g k len (kz id c) ((List.range (len*k)).map F):=by
 rcases h with⟨rfl,rfl⟩|⟨a,cap,rfl,rfl⟩|⟨b,off,cap,C,ty,fz,rfl,y,J,K,D,G⟩
 .exact⟨by simp,.inl ⟨rfl,.inl rfl⟩⟩
 .exact⟨by simp,.inl ⟨rfl,.inr rfl⟩⟩
 match len,y with
 |n+1,_=>
  refine⟨by simp,.inr ⟨id,0,none,_,rfl,A,by simp,?_⟩⟩;grind[List.take_of_length_le]
def zO(f:Nat->Option Row):Nat->Tr Row
 |0=>.nil
 |n+1=>(zO f n).set n (f n)
theorem TG(f:Nat->Option Row):∀(n i:Nat),(zO f n).get i=if i<n then f i else none
 |0,i=>by simp[zO];rfl
 |n+1,i=>by rw[zO,Tr.fT,TG f n i];grind
end
section
variable{H:Type}{enc:TypeId×Value->H}{P:Program}{w:World}{held:Bool}
theorem Mv{e':TypeId}{c:Value}{y:DataW H×List MemPlace}(ht:P.underlying t=some (.slice e))(he:P.underlying e=some (.array k e'))(hC:P.cellsOf e=k)(ac:P.cellsOf e'=1)(J:0<k)
 (h:DataW.trod enc P w 0 (λ _=>true) held n t [c]=some y):
 ∃len V,lI w k c len V/\∀i j,i<len->j<k->∃m z,DataW.trod enc P w 0 (λ _=>true) held m e' [V (i*k+j)]=some z:=by
 rcases open_slice ht h with⟨hc,_⟩|⟨a,len,cap,m,n',D,Pl,M,_,hl,_,hm,hx,hi⟩
 .simp only[rG,rO]at hc;exact⟨0,λ _=>.bool false,.inl ⟨hc,rfl⟩,λ i j hi=>by omega⟩
 .simp only[rG,rO]at M;simp only[jz]at hm;subst hm;rw[hC]at hi;have N:∀i,i<m->∃K,K.length=k/\(∀j,j<k->w.cell? (a.add (i*k+j))=K[j]?)/\DataW.trod enc P w 0 (λ _=>true) held n' e K=some (D i,Pl i):=by intro i ab;obtain⟨K,h1,h2⟩:=hi i ab;obtain⟨_,h3,h4⟩:=World.cells?_some h1;grind[add_add]
  rcases aiR len with h0|hlen
  .subst h0;exact⟨0,λ _=>.bool false,.inr (.inl ⟨a,m,M,rfl⟩),λ i j hi=>by omega⟩
  have A:∀q,q<m*k->∃v,w.cell? (a.add q)=some v:=by intro q hq;have hi:q/k<m:=(aBj J).2 hq;have hj:q%k<k:=Nat.mod_lt _ J;grind[Nat.div_add_mod]
  have Z:0<m*k:=Nat.mul_pos (by omega) J;obtain⟨v0,S⟩:=A 0 Z;obtain⟨C,ty,fz,hb,_,Y⟩:=DB S;have G:=Y rfl;have ai:∀q v,w.cell? (a.add q)=some v->C[a.off+q]? =some v:=by grind[DB]
  have L:a.off+m*k<=C.size:=by obtain⟨v,hv⟩:=A (m*k- 1) (by omega);grind
  refine⟨len,λ q=>(w.cell? (a.add q)).getD (.bool false),.inr (.inr ⟨a.block,a.off,m,C,ty,fz,?_,hlen,hl,hb,L,λ q hq=>?_⟩),λ i j ag hj=>?_⟩;.rw[M];cases a;simp only at G;rw[G]
  .have af:len*k<=m*k:=mQ _ hl;obtain⟨v,hv⟩:=A q (by omega);grind
  obtain⟨K,h1,h2,h3⟩:=N i (by omega);obtain⟨xs,n2,_,ad,_,ae,ah⟩:=DataW.trod_array he h3;grind[List.drop_eq_getElem_cons]
end
section
open Go.Proofs Go.RowKit
variable{α:Type}
def sc:Value->aa
 |.bool b=>.bool b
 |.int k n=>.int k n
 |_=>.nilPtr
def jD:Value->Int
 |.int _ n=>n
 |_=>0
def U8(v:Value):Prop:=v=.int .u8 (jD v)/\B8 (jD v)
def Eg:Tryz.prog.cellsOf 5=1:=by kernel_rfl
def acL:Tryz.prog.cellsOf 99=2:=by kernel_rfl
def ahy:Tryz.prog.cellsOf 106=3:=by kernel_rfl
def asa:Tryz.prog.cellsOf 54=4:=by kernel_rfl
def Uw:kD.cells.length=64:=by kernel_rfl
def awA{c:aa}(h:kD.cells[i]? =some c):i<64/\c=.int .u8 (.ofNat (tab.getD i 0)):=by
 have hi:i<64:=by have:=(mR.1 h).1;rw[Uw]at this;exact this
 refine⟨hi,?_⟩;have h:(tab.map λ n=>aa.int .u8 (.ofNat n))[i]? =some c:=h;rw[bM]at h;cases a:tab[i]?;.rw[a]at h;cases h
 rename_i x;rw[a]at h;simp[List.getD,a];simpa using h.symm
def zL{H:Type}{enc:TypeId×Value->H}{W:World}{a:Bool}{m:Nat}{z:DataW H×List MemPlace}(h:DataW.trod enc af W 0 (λ _=>true) a m 5 [v]=some z):U8 v:=by obtain⟨n,y,_,A⟩:=DataW.trod_int Tryz.underlying5 h;simp at y;subst y;have:=bounds_u8 A;exact⟨rfl,this⟩
def Aw(h:U8 v):sc v=.int .u8 (jD v):=by rw[h.1];rfl
def FU(h:U8 v):bj ρ (sc v) v:=by rw[Aw h];exact h.1
def Xv{I:Im}:∀{es:aS} {cs:List aa},cs.length=es.length*k->(∀i e,es[i]? =some e->e.length=k/\cE I e (lT cs k i))->bR I k es cs
 |[],cs,a,_=>by simp at a;rw[a];simp[bR]
 |e::es,cs,a,y=>by
  simp only[bR];obtain⟨J,A⟩:=y 0 e rfl;have K:lT cs k 0=cs.take k:=by unfold lT;rw[uh,cM]
  rw[K]at A;refine⟨J,A,Xv (by rw[xz,a,cD,jR];omega) λ i b G=>?_⟩;obtain⟨D,h⟩:=y (i+1) b G;refine⟨D,?_⟩;unfold lT at h⊢;rw[pG,show k+i*k=(i+1)*k by rw[jR];omega];exact h
def ak4{len:Nat}(hi:i<len)(F:Nat->aa):lT ((List.range (len*k)).map F) k i=(List.range k).map λ j=>F (i*k+j):=by
 have h:i*k+k<=len*k:=by have:=mQ k (show i+1<=len from hi);rw[jR]at this;omega
 apply xr;intro j;unfold lT;rw[qw];by_cases a:j<k;.rw[ao a,zF,bM,Et (by omega),bM,Et a];rfl
 rw[aj a,ma (by simp;omega)]
def lI.rp{w:World}{c:Value}{len:Nat}{V:Nat->Value}(h:lI w k c len V){I:Im}{id:Nat}(L:I id=lW k F c){es:aS}(y:es.length=len)(K:∀i e,es[i]? =some e->e.length=k/\cE I e ((List.range k).map λ j=>F (i*k+j))):RP I (.sl es none) (kz id c):=by
 have A:bR I k es ((List.range (len*k)).map F):=Xv (by simp[y]) λ i e G=>by
  have hi:i<len:=by rw[<-y];exact(mR.1 G).1
  rw[ak4 hi];exact K i e G
 simp only[RP];rcases h with⟨rfl,rfl⟩|⟨a,cap,rfl,rfl⟩|⟨b,off,cap,C,ty,fz,rfl,D,J,P,M,N⟩
 .exact .inl ⟨km y,.inl rfl⟩
 .exact .inl ⟨km y,.inr rfl⟩
 match len,D,A,y with
 |n+1,_,A,y=>
  refine .inr ⟨id,0,none,⟨(List.range ((n+1)*k)).map F,0,0,false,true,k⟩,k,?_,L,.inr ⟨rfl,rfl⟩,by simp[y],?_⟩;.rw[y];rfl
  rw[cM,mB (by simp[y])];exact A
def lI.Hn{w:World}{c:Value}{len:Nat}{V:Nat->Value}(h:lI w k c len V){id:Nat}:(kz id c).eh=true:=by
 rcases h with⟨rfl,rfl⟩|⟨a,cap,rfl,rfl⟩|⟨b,off,cap,C,ty,fz,rfl,y,A,J,D,G⟩
 .rfl
 .rfl
 match len,y with
 |n+1,_=>rfl
abbrev Ao(n:Nat)(V:Nat->Value):List Int:=(List.range n).map λ i=>jD (V i)
abbrev LS(n:Nat)(V:Nat->Value):List (Int×Int):=(List.range n).map λ i=>(jD (V (i*2)),jD (V (i*2+1)))
abbrev GU(n:Nat)(V:Nat->Value):List (Int×Int×Int):=(List.range n).map λ i=>(jD (V (i*3)),jD (V (i*3+1)),jD (V (i*3+2)))
def My{f:Nat->α}{p:α->Prop}(h:∀i,i<n->p (f i)):∀x∈(List.range n).map f,p x:=λ x a=>by obtain⟨i,hi,rfl⟩:=eK.1 a;exact h i (zD.1 hi)
def LV{β:Type}{f:Nat->α}{c:α->β}{e:β}(h:(((List.range n).map f).map c)[i]? =some e):i<n/\e=c (f i):=by
 rw[bM,bM]at h;by_cases hi:i<n;.rw[Et hi]at h;exact⟨hi,by simpa using h.symm⟩
 rw[ma (by simpa using hi)]at h;cases h
section
variable{w:World}{c:Value}{len:Nat}{V:Nat->Value}{I:Im}{id:Nat}
def ES(h:lI w 1 c len V)(y:∀q,q<len*1->U8 (V q))(A:I id=lW 1 (λ q=>sc (V q)) c):RP I (.sl ((Ao len V).map c8) none) (kz id c):=by
 refine h.rp A (by simp) λ i e a=>?_
 obtain⟨hi,rfl⟩:=LV a;refine⟨rfl,?_⟩;show cE I [.sc (.int .u8 (jD (V i)))] [sc (V (i*1+0))];have D:i*1+0=i:=by omega
 rw[D,Aw (y i (by omega))];simp[cE,RP,lX]
def rp2(h:lI w 2 c len V)(a:∀q,q<len*2->U8 (V q))(A:I id=lW 2 (λ q=>sc (V q)) c):RP I (.sl ((LS len V).map lR) none) (kz id c):=by
 refine h.rp A (by simp) λ i e y=>?_
 obtain⟨hi,rfl⟩:=LV y;refine⟨rfl,?_⟩;show cE I [.sc (.int .u8 (jD (V (i*2)))),.sc (.int .u8 (jD (V (i*2+1))))] [sc (V (i*2)),sc (V (i*2+1))];rw[Aw (a (i*2) (by omega)),Aw (a (i*2+1) (by omega))];simp[cE,RP,lX]
def rp3(h:lI w 3 c len V)(a:∀q,q<len*3->U8 (V q))(A:I id=lW 3 (λ q=>sc (V q)) c):RP I (.sl ((GU len V).map mr) none) (kz id c):=by
 refine h.rp A (by simp) λ i e y=>?_
 obtain⟨hi,rfl⟩:=LV y;refine⟨rfl,?_⟩;show cE I [.sc (.int .u8 (jD (V (i*3)))),.sc (.int .u8 (jD (V (i*3+1)))),.sc (.int .u8 (jD (V (i*3+2))))] [sc (V (i*3)),sc (V (i*3+1)),sc (V (i*3+2))];rw[Aw (a (i*3) (by omega)),Aw (a (i*3+1) (by omega)),Aw (a (i*3+2) (by omega))];simp[cE,RP,lX]
def b1(a:∀q,q<len*1->U8 (V q)):∀v∈Ao len V,B8 v:=My λ i hi=>(a i (by omega)).2
def b2(a:∀q,q<len*2->U8 (V q)):∀p∈LS len V,P8 p:=My λ i hi=>⟨(a (i*2) (by omega)).2,(a (i*2+1) (by omega)).2⟩
def b3(a:∀q,q<len*3->U8 (V q)):∀p∈GU len V,vK p:=My λ i hi=>⟨(a (i*3) (by omega)).2,(a (i*3+1) (by omega)).2,(a (i*3+2) (by omega)).2⟩
end
end
section
open Go.Proofs Go.RowKit
variable{n:Int}
def b64(h:(Lit.int .u64 n).wf=true):0<=n/\n<18446744073709551616:=by simp[Lit.wf,IntKind.min,IntKind.max,IntKind.signed,IntKind.bits]at h;omega
def aAy(h:0<=n/\n<18446744073709551616):eW (BitVec.ofNat 64 n.toNat)=.sc (.int .u64 n):=by
 show ae.sc (.int .u64 ((BitVec.ofNat 64 n.toNat).toNat:Int))=_;rw[BitVec.toNat_ofNat,aD9 (by omega)]
 congr 2
 omega
def kq(q:Nat):Nat:=if q%4=1 then 3 else 1
def afa(h:q%4=1):kq q=3:=by unfold kq;rw[ao h]
def WZ(h:¬q%4=1):kq q=1:=by unfold kq;rw[aj h]
def auK:0<kq q:=by unfold kq;split<;>decide
section
variable{H:Type}{enc:TypeId×Value->H}{W:World}{held:Bool}
set_option maxHeartbeats 1000000 in
def ayt(ha:JN kD)(am:sK af){n0 n1 n2 n3 n4:Nat}{c0 c1 c2 c3 c4:Value}{y0 y1 y2 y3 y4:DataW H×List MemPlace}
 (h0:DataW.trod enc af W 0 (λ _=>true) held n0 22 [c0]=some y0) (P:DataW.trod enc af W 0 (λ _=>true) held n1 22 [c1]=some y1) (h2:DataW.trod enc af W 0 (λ _=>true) held n2 23 [c2]=some y2)
 (h3:DataW.trod enc af W 0 (λ _=>true) held n3 24 [c3]=some y3) (h4:DataW.trod enc af W 0 (λ _=>true) held n4 25 [c4]=some y4)
 (w2:Wt af 23 y2.1) (w3:Wt af 24 y3.1) (ht:∀i,i<64->W.cell? ⟨0,i,none⟩=some (.int .u8 (.ofNat (tab.getD i 0)))):
 Calls af 3 #[.agg #[c0,c1,c2,c3,c4]] W (λ e w'=>e=.returned (.bool true)/\Below W.heap.size W w'):=by
 obtain⟨l0,V0,s0,f0⟩:=Mv Tryz.underlying22 Tryz.underlying99 acL Eg (by decide) h0;obtain⟨l1,V1,s1,f1⟩:=Mv Tryz.underlying22 Tryz.underlying99 acL Eg (by decide) P;obtain⟨l2,V2,s2,f2⟩:=ark Tryz.underlying23 Tryz.underlying54 (by kernel_rfl) (asa.trans rfl) (by decide) h2 w2;obtain⟨l3,V3,s3,_,f3⟩:=adE Tryz.underlying24 Eg h3 w3;obtain⟨l4,V4,s4,f4⟩:=Mv Tryz.underlying25 Tryz.underlying106 ahy Eg (by decide) h4;have s2:lI W 4 c2 l2 V2:=s2;have u0:∀q,q<l0*2->U8 (V0 q):=λ q A=>by obtain⟨m,z,D⟩:=f0 (q/2) (q%2) (by omega) (by omega);rw[show q/2*2+q%2=q by omega]at D;exact zL D
 have u1:∀q,q<l1*2->U8 (V1 q):=λ q A=>by obtain⟨m,z,D⟩:=f1 (q/2) (q%2) (by omega) (by omega);rw[show q/2*2+q%2=q by omega]at D;exact zL D
 have u3:∀q,q<l3*1->U8 (V3 q):=λ q A=>by obtain⟨m,z,D,_⟩:=f3 q (by omega);exact zL D
 have u4:∀q,q<l4*3->U8 (V4 q):=λ q A=>by obtain⟨m,z,D⟩:=f4 (q/3) (q%3) (by omega) (by omega);rw[show q/3*3+q%3=q by omega]at D;exact zL D
 have e2:∀i,i<l2->V2 (i*4+2)=.int .u64 (jD (V2 (i*4+2)))/\(0<=jD (V2 (i*4+2))/\jD (V2 (i*4+2))<18446744073709551616):=by intro i hi;obtain⟨m,z,D,_⟩:=f2 i 2 _ hi rfl;obtain⟨b,hb,_,hw⟩:=DataW.trod_int Tryz.underlying52 D;have hb:[V2 (i*4+2)]=[Value.int .u64 b]:=hb;simp at hb;rw[hb];exact⟨rfl,b64 hw⟩
 have e3:∀q,∃p:Nat×(Nat->Value),q<l2*4->q%4≠2->lI W (kq q) (V2 q) p.1 p.2/\∀j,j<p.1*kq q->U8 (p.2 j):=by
  intro q;by_cases A:q<l2*4/\q%4≠2
  .obtain⟨A,ar⟩:=A;have hi:q/4<l2:=by omega
   have ag:q/4*4+q%4=q:=by omega
   by_cases P:q%4=1;.obtain⟨m,z,D,hw⟩:=f2 (q/4) 1 _ hi rfl;have D:DataW.trod enc af W 0 (λ _=>true) held m 25 [V2 (q/4*4+1)]=some z:=D;rw[<-P,ag]at D;obtain⟨L,N,sl,hN⟩:=Mv Tryz.underlying25 Tryz.underlying106 ahy Eg (by decide) D;refine⟨(L,N),λ _ _=>?_⟩;rw[afa P];refine⟨sl,λ j hj=>?_⟩;obtain⟨m',z',S⟩:=hN (j/3) (j%3) (by simp only at hj;omega) (by omega);rw[show j/3*3+j%3=j by omega]at S;exact zL S
   have al:∃m z,DataW.trod enc af W 0 (λ _=>true) held m 24 [V2 q]=some z/\Wt af 24 z.1:=by
    rcases(show q%4=0\/q%4=3 by omega)with hm|hm
    .obtain⟨m,z,D,hw⟩:=f2 (q/4) 0 _ hi rfl;have D:DataW.trod enc af W 0 (λ _=>true) held m 24 [V2 (q/4*4)]=some z:=D;rw[show q/4*4=q by omega]at D;exact⟨m,z,D,hw⟩
    obtain⟨m,z,D,hw⟩:=f2 (q/4) 3 _ hi rfl;have D:DataW.trod enc af W 0 (λ _=>true) held m 24 [V2 (q/4*4+3)]=some z:=D;rw[<-hm,ag]at D;exact⟨m,z,D,hw⟩
   obtain⟨m,z,D,hw⟩:=al;obtain⟨L,N,sl,_,hN⟩:=adE Tryz.underlying24 Eg D hw;refine⟨(L,N),λ _ _=>?_⟩;rw[WZ P];refine⟨sl,λ j hj=>?_⟩;obtain⟨m',z',S,_⟩:=hN j (by simp only at hj;omega);exact zL S
  exact⟨(0,λ _=>.bool false),λ a b=>absurd ⟨a,b⟩ A⟩
 obtain⟨G,ab⟩:=Classical.axiomOfChoice e3
 let F2:Nat->aa:=λ q=>if q%4=2 then sc (V2 q)else kz (q+7) (V2 q)
 let f:Nat->Option Row:=λ v=>match v with
  |0=>some kD
  |1=>none
  |2=>lW 2 (λ q=>sc (V0 q)) c0
  |3=>lW 2 (λ q=>sc (V1 q)) c1
  |4=>lW 4 F2 c2
  |5=>lW 1 (λ q=>sc (V3 q)) c3
  |6=>lW 3 (λ q=>sc (V4 q)) c4
  |q+7=>if q%4=2 then none else lW (kq q) (λ j=>sc ((G q).2 j)) (V2 q)
 let ρ:cr:=λ v=>match v with
  |0=>some ⟨0,0,64,1⟩
  |1=>none
  |2=>tY 2 c0
  |3=>tY 2 c1
  |4=>tY 4 c2
  |5=>tY 1 c3
  |6=>tY 3 c4
  |q+7=>if q<l2*4 then tY (kq q) (V2 q)else none
 let Hp:ah:=⟨zO f (l2*4+7),.nil,l2*4+7⟩
 have K:∀v,v<l2*4+7->Hp.objs.get v=f v:=λ v M=>by show(zO f (l2*4+7)).get v=f v;rw[TG,ao M]
 have J:∀v r,Hp.objs.get v=some r->v<l2*4+7/\f v=some r:=λ v r y=>by
  have y:(zO f (l2*4+7)).get v=some r:=y;rw[TG]at y;split at y;.exact⟨by assumption,y⟩
  cases y
 have Z:∀v r,f v=some r->r.ro=true/\r.aC=0:=by
  intro v r y
  match v,y with
  |0,y=>cases y;exact⟨rfl,rfl⟩
  |2,y=>exact Cc y
  |3,y=>exact Cc y
  |4,y=>exact Cc y
  |5,y=>exact Cc y
  |6,y=>exact Cc y
  |q+7,y=>
   have y:(if q%4=2 then none else lW (kq q) (λ j=>sc ((G q).2 j)) (V2 q))=some r:=y;split at y;.cases y
   exact Cc y
 have ac:∀q,q<l2*4->ρ (q+7)=tY (kq q) (V2 q):=λ q A=>by show(if q<l2*4 then tY (kq q) (V2 q)else none)=_;rw[ao A]
 have ap:∀q,q<l2*4->bj ρ (F2 q) (V2 q):=by
  intro q A;show bj ρ (if q%4=2 then sc (V2 q)else kz (q+7) (V2 q)) (V2 q);split;.rename_i hm;have:=(e2 (q/4) (by omega)).1;rw[show q/4*4+2=q by omega]at this;rw[this];rfl
  rename_i hm;exact(ab q A hm).1.bj auK (ac q A)
 obtain⟨C,ty,fz,hb,hC⟩:∃C ty fz,W.heap[0]? =some (.cells C ty fz)/\∀i,i<64->C[i]? =some (.int .u8 (.ofNat (tab.getD i 0))):=by
  have hc:∀i,i<64->∃C ty fz,W.heap[0]? =some (.cells C ty fz)/\C[i]? =some (.int .u8 (.ofNat (tab.getD i 0))):=by
   intro i hi;have h:=ht i hi;unfold World.cell? at h;simp only at h;split at h;.rename_i C ty fz an;exact⟨C,ty,fz,an,by simpa using h⟩
   cases h
  obtain⟨C,ty,fz,hb,_⟩:=hc 0 (by omega);refine⟨C,ty,fz,hb,λ i hi=>?_⟩;obtain⟨C',aq,av,ak,h⟩:=hc i hi;rw[hb]at ak;cases ak;exact h
 have au:64<=C.size:=by have:=(BI.1 (hC 63 (by omega))).1;omega
 have s:jj W.heap.size 1 ρ Hp W:={
  base:=be _
  iT:=λ g hg=>by
   obtain rfl:g=0:=by omega
   exact⟨64,1,rfl⟩
  row:=λ v r y=>by
   obtain⟨M,y⟩:=J v r y
   match v,M,y with
   |0,_,y=>
    cases y;refine⟨⟨0,0,64,1⟩,C,ty,fz,rfl,hb,⟨?_,by simp only;omega,λ _=>?_,rfl,(λ h=>by cases h),(λ h=>by cases h),λ i c hc=>?_⟩⟩;.rw[Uw];exact be _
    .rw[Uw]
    obtain⟨hi,rfl⟩:=awA hc;exact⟨_,by simp only[iX];exact hC i hi,rfl⟩
   |2,_,y=>exact s0.row (id:=2) rfl (λ q A=>FU (u0 q A)) y
   |3,_,y=>exact s1.row (id:=3) rfl (λ q A=>FU (u1 q A)) y
   |4,_,y=>exact s2.row (id:=4) rfl ap y
   |5,_,y=>exact s3.row (id:=5) rfl (λ q A=>FU (u3 q A)) y
   |6,_,y=>exact s4.row (id:=6) rfl (λ q A=>FU (u4 q A)) y
   |q+7,M,y=>
    have A:q<l2*4:=by omega
    have y:(if q%4=2 then none else lW (kq q) (λ j=>sc ((G q).2 j)) (V2 q))=some r:=y;split at y;.cases y
    rename_i hm;obtain⟨sl,hN⟩:=ab q A hm;exact sl.row (id:=q+7) (ac q A) (λ j hj=>FU (hN j hj)) y
  sep:=λ u v ru rv lu lv _ hu M _ _ _=>.inl ⟨(Z u ru (J u ru hu).2).1,(Z v rv (J v rv M).2).1⟩
  aC:=λ v r mem M h _=>by have:=(Z v r (J v r M).2).1;rw[this]at h;cases h}
 have g:Good Hp:=by
  refine⟨λ v r y=>?_,λ fm mem u r h=>?_,λ fm mem h=>?_⟩;.obtain⟨M,y⟩:=J v r y;have:=(Z v r y).2;exact⟨M,by rw[this];show 0<l2*4+7;omega⟩
  .cases h
  cases h
 let rl:List nI:=(List.range l2).map λ i=>(Ao (G (i*4)).1 (G (i*4)).2,GU (G (i*4+1)).1 (G (i*4+1)).2,BitVec.ofNat 64 (jD (V2 (i*4+2))).toNat,Ao (G (i*4+3)).1 (G (i*4+3)).2)
 have r0:RP Hp.objs.get (.sl ((LS l0 V0).map lR) none) (kz 2 c0):=rp2 s0 u0 (K 2 (by omega));have r1:RP Hp.objs.get (.sl ((LS l1 V1).map lR) none) (kz 3 c1):=rp2 s1 u1 (K 3 (by omega));have r3:RP Hp.objs.get (.sl ((Ao l3 V3).map c8) none) (kz 5 c3):=ES s3 u3 (K 5 (by omega));have r4:RP Hp.objs.get (.sl ((GU l4 V4).map mr) none) (kz 6 c4):=rp3 s4 u4 (K 6 (by omega));have ai:∀q,q<l2*4->q%4≠2->Hp.objs.get (q+7)=lW (kq q) (λ j=>sc ((G q).2 j)) (V2 q):=λ q A hm=>by rw[K _ (by omega)];show(if q%4=2 then none else lW (kq q) (λ j=>sc ((G q).2 j)) (V2 q))=_;rw[aj hm]
 have Y:∀q,q<l2*4->q%4≠2->¬q%4=1->lI W 1 (V2 q) (G q).1 (G q).2/\(∀j,j<(G q).1*1->U8 ((G q).2 j))/\Hp.objs.get (q+7)=lW 1 (λ j=>sc ((G q).2 j)) (V2 q):=λ q A hm P=>by have h:=ab q A hm;have h':=ai q A hm;rw[WZ P]at h h';exact⟨h.1,h.2,h'⟩
 have ae:∀q,q<l2*4->q%4=1->lI W 3 (V2 q) (G q).1 (G q).2/\(∀j,j<(G q).1*3->U8 ((G q).2 j))/\Hp.objs.get (q+7)=lW 3 (λ j=>sc ((G q).2 j)) (V2 q):=λ q A P=>by have h:=ab q A (by omega);have h':=ai q A (by omega);rw[afa P]at h h';exact⟨h.1,h.2,h'⟩
 have r2:RP Hp.objs.get (.sl (rl.map pF) none) (kz 4 c2):=by
  refine s2.rp (K 4 (by omega)) (by simp[rl]) λ i e he=>?_
  obtain⟨hi,rfl⟩:=LV he;refine⟨rfl,?_⟩;obtain⟨a0,a1,a2⟩:=Y (i*4) (by omega) (by omega) (by omega);obtain⟨b0,b1,b2⟩:=ae (i*4+1) (by omega) (by omega);obtain⟨d0,d1,d2⟩:=Y (i*4+3) (by omega) (by omega) (by omega);obtain⟨g1,g2⟩:=e2 i hi;show cE Hp.objs.get [.sl ((Ao (G (i*4)).1 (G (i*4)).2).map c8) none,.sl ((GU (G (i*4+1)).1 (G (i*4+1)).2).map mr) none,eW (BitVec.ofNat 64 (jD (V2 (i*4+2))).toNat),.sl ((Ao (G (i*4+3)).1 (G (i*4+3)).2).map c8) none] [(if(i*4)%4=2 then sc (V2 (i*4))else kz (i*4+7) (V2 (i*4))),(if(i*4+1)%4=2 then sc (V2 (i*4+1))else kz (i*4+1+7) (V2 (i*4+1))),(if(i*4+2)%4=2 then sc (V2 (i*4+2))else kz (i*4+2+7) (V2 (i*4+2))),(if(i*4+3)%4=2 then sc (V2 (i*4+3))else kz (i*4+3+7) (V2 (i*4+3)))];rw[aj (show¬(i*4)%4=2 by omega),aj (show¬(i*4+1)%4=2 by omega),ao (show(i*4+2)%4=2 by omega),aj (show¬(i*4+3)%4=2 by omega),aAy g2];have hs:sc (V2 (i*4+2))=.int .u64 (jD (V2 (i*4+2))):=by rw[g1];rfl
  rw[hs];refine qf.2 ⟨_,_,rfl,ES a0 a1 a2,qf.2 ⟨_,_,rfl,rp3 b0 b1 b2,qf.2 ⟨_,_,rfl,by simp[RP,lX],qf.2 ⟨_,_,rfl,ES d0 d1 d2,by simp only[cE]⟩⟩⟩⟩
 have hd:∀x∈rl,yS x:=My λ i hi=>by obtain⟨a0,a1,a2⟩:=Y (i*4) (by omega) (by omega) (by omega);obtain⟨b0,b1,b2⟩:=ae (i*4+1) (by omega) (by omega);obtain⟨d0,d1,d2⟩:=Y (i*4+3) (by omega) (by omega) (by omega);exact⟨Abs.b1 a1,Abs.b3 b1,Abs.b1 d1⟩
 have hx:cJ ρ [.agg [kz 2 c0,kz 3 c1,kz 4 c2,kz 5 c3,kz 6 c4]] [.agg #[c0,c1,c2,c3,c4]]:=by refine dg.2 ⟨_,_,rfl,⟨[c0,c1,c2,c3,c4],rfl,?_⟩,rfl⟩;exact dg.2 ⟨_,_,rfl,s0.bj (by omega) rfl,dg.2 ⟨_,_,rfl,s1.bj (by omega) rfl,dg.2 ⟨_,_,rfl,s2.bj (by omega) rfl,dg.2 ⟨_,_,rfl,s3.bj (by omega) rfl,dg.2 ⟨_,_,rfl,s4.bj (by omega) rfl,rfl⟩⟩⟩⟩⟩
 have ad:∀v,Hp.next<=v->ρ v=none:=by intro v M;have M:l2*4+7<=v:=M;obtain⟨q,rfl⟩:∃q,v=q+7:=⟨v- 7,by omega⟩;show(if q<l2*4 then tY (kq q) (V2 q)else none)=none;rw[aj (by omega)]
 refine(azG ha am (I:=Hp.objs.get) g (λ u r e=>e) (K 0 (by omega)) (b2 u0) (b2 u1) hd (b1 u3) (b3 u4) r0 r1 r2 r3 r4 (by simp[s0.Hn,s1.Hn,s2.Hn,s3.Hn,s4.Hn]) s ad hx).mono λ e w' ⟨he,P,h2,h3,h4,h5⟩=>?_
 exact⟨he,⟨P,h2,h3,h4,h5⟩⟩
end
end
end
end Go.Abs
