/- The contract of the law. -/
import Derived.Test.YtcmaalfaddllgaaGreatDoorP
import Derived.Test.YtcmaalfaddllgaaGreatDoorR
import Derived.Test.YtcmaalfaddllgaaGreatDoorS
import Derived.Test.YtcmaalfaddllgaaGreatDoorCards
import Derived.Test.YtcmaalfaddllgaaGreatDoorTie
import Derived.WalkKit
import Derived.ProofKit
import Derived.OpenShut
import Derived.ReadAgain
import Derived.Lib.SmallJoins
import Derived.Deep.DeepHandedRow
import Derived.Lib.LaidTab
set_option linter.all false
namespace Go.Proofs.YtcmaalfaddllgaaGreatDoor.beginning
open Go.Abs
noncomputable section
open Go.ChangeShapes Go.WideShapes Go.ChangeAt Go.RowKit Go.Joins Go.Deep
def own:ownKnob Tryz.prog.godebug=none:=by kernel_rfl
def aef:Tryz.prog.globalNamed "math/bits.deBruijn64tab"=some 0:=by kernel_rfl
def aja:(Tryz.prog.globals[0]?).map (·.type)=some 209:=by kernel_rfl
def auy:Tryz.prog.cellsOf 209=64:=by kernel_rfl
def atm:Tryz.prog.cellsOf 5=1:=by kernel_rfl
def ajl:Kids Tryz.prog (·<Tryz.prog.types.size):=kids_rows (by kernel_rfl) (by kernel_rfl)
def an4:∀t e,t<Tryz.prog.types.size->Tryz.prog.underlying t=some (.slice e)->0<Tryz.prog.cellsOf e:=slices_full_of Tryz.prog (by kernel_rfl)
def arG:27<Tryz.prog.types.size:=jk (by kernel_rfl)
def lt5:5<Tryz.prog.types.size:=jk (by kernel_rfl)
def ajf:Rows.unfoldingBeginningRow.laid=[("math/bits.deBruijn64tab",Lib.tabData .u8 (Abs.tab.map Int.ofNat))]:=by kernel_rfl
def ai5{W:World}(h:laidMetH Tryz.prog Rows.unfoldingBeginningRow.laid W):Lib.TabIs Tryz.prog W "math/bits.deBruijn64tab" .u8 (Abs.tab.map Int.ofNat):=by rw[ajf]at h;exact Lib.tabIs_of_head (rest:=[]) aef aja Tryz.underlying209 Tryz.underlying5 atm auy h
def afc:(Abs.tab.map Int.ofNat).length=64:=by kernel_rfl
def ate{W:World}(h:laidMetH Tryz.prog Rows.unfoldingBeginningRow.laid W)(i:Nat)(hi:i<64):W.cell? ⟨0,i,none⟩=some (.int .u8 (.ofNat (Abs.tab.getD i 0))):=by
 have:=(ai5 h).cell aef i (by rw[afc];exact hi);rw[this];have a:i<Abs.tab.length:=by have:=afc;rw[aF]at this;omega
 simp[List.getD,a]
def age{H:Type}{enc:TypeId×Value->H}{W y:World}{t:TypeId}{v:Value}{d:DataW H}{p:List MemPlace}(D:t<Tryz.prog.types.size)(u:∀q∈p,q.block<W.heap.size)(J:Below W.heap.size W y)(h:DataW.Trod enc Tryz.prog W 0 (λ _=>true) true t v d p)(A:Nat->Bool)(a:∀q∈p,A q.block=true):
 DataW.Trod enc Tryz.prog y 0 A true t v d p:=by
 obtain⟨n,G⟩:=h;have K:DataW.Trod enc Tryz.prog y 0 (λ _=>true) true t v d p:=⟨n,DataW.trod_carry n _ _ _ G λ q F=>J.same (u q F)⟩;exact K.respare ajl an4 D a
def akD{α:Type}{cs:Array α}(h:cs.size=5):∃A y u q a,cs= #[A,y,u,q,a]:=by
 obtain⟨l⟩:=cs
 match l,h with
 |[A,y,u,q,a],_=>exact⟨A,y,u,q,a,rfl⟩
section
variable{H:Type}{enc:TypeId×Value->H}{P:Program}{w:World}{base:Nat}{spare:Nat->Bool}{held:Bool}
def atU{t:TypeId}{M L K J G:Field}{F:Nat}{cs:List Value}{x:DataW H×List MemPlace}(S:P.underlying t=some (.struct #[M,L,K,J,G]))(h:DataW.trod enc P w base spare held F t cs=some x):
 ∃y u q a y4 n,x=(.agg [y.1,u.1,q.1,a.1,y4.1],y.2++(u.2++(q.2++(a.2++y4.2))))/\DataW.trod enc P w base spare held n M.type ((cs.drop M.offset).take (P.cellsOf M.type))=some y/\
  DataW.trod enc P w base spare held n L.type ((cs.drop L.offset).take (P.cellsOf L.type))=some u/\DataW.trod enc P w base spare held n K.type ((cs.drop K.offset).take (P.cellsOf K.type))=some q/\
  DataW.trod enc P w base spare held n J.type ((cs.drop J.offset).take (P.cellsOf J.type))=some a/\DataW.trod enc P w base spare held n G.type ((cs.drop G.offset).take (P.cellsOf G.type))=some y4:=by
 obtain⟨N,n,_,rfl,Y,A,D⟩:=DataW.trod_struct S h
 match N,A with
 |[y,u,q,a,y4],_=>exact⟨y,u,q,a,y4,n,by simp,by simpa using D 0 M rfl,by simpa using D 1 L rfl,by simpa using D 2 K rfl,by simpa using D 3 J rfl,by simpa using D 4 G rfl⟩
def aoW{r:Reach}{b0:Nat}{t:TypeId}{K J G F D:Field}{v:Value}{d:DataW H}{p:List MemPlace}(hs:P.underlying t=some (.struct #[K,J,G,F,D]))(a:oneCellFields P #[K,J,G,F,D]=true)(hC:P.cellsOf t=5)
 (hv:Value.okWide P w r b0 t v) (h:DataW.Trod enc P w base spare held t v d p):
 ∃(Z Y S N M:Value) (A y u q y4:DataW H×List MemPlace) (n:Nat),v=.agg #[Z,Y,S,N,M]/\d=.agg [A.1,y.1,u.1,q.1,y4.1]/\DataW.trod enc P w base spare held n K.type [Z]=some A/\DataW.trod enc P w base spare held n J.type [Y]=some y/\DataW.trod enc P w base spare held n G.type [S]=some u/\DataW.trod enc P w base spare held n F.type [N]=some q/\DataW.trod enc P w base spare held n D.type [M]=some y4:=by
 obtain⟨cs,rfl,L⟩:=okWide_struct hs hv;obtain⟨c0,c1,c2,c3,c4,rfl⟩:=akD (L.trans hC);obtain⟨aa,hf⟩:=h;obtain⟨A,y,u,q,y4,n,hx,h0,h1,h2,h3,h4⟩:=atU hs hf;obtain⟨o0,k0⟩:=hone_of a 0 K rfl;obtain⟨o1,k1⟩:=hone_of a 1 J rfl;obtain⟨o2,k2⟩:=hone_of a 2 G rfl;obtain⟨o3,k3⟩:=hone_of a 3 F rfl;obtain⟨o4,k4⟩:=hone_of a 4 D rfl;simp only[Ei]at hx;exact⟨c0,c1,c2,c3,c4,A,y,u,q,y4,n,rfl,hx.1,by simpa[Value.cells,o0,k0]using h0,by simpa[Value.cells,o1,k1]using h1,by simpa[Value.cells,o2,k2]using h2,by simpa[Value.cells,o3,k3]using h3,by simpa[Value.cells,o4,k4]using h4⟩
end
set_option maxRecDepth 100000 in
def ajm(H:Type)(enc:TypeId×Value->H)(W:World)(base:Nat)(args:Array Value)(ds gs:List (DataW H))(before:List MemPlace)
 (y:∀(j:Nat) t v,Tryz.f3.params[j]? =some t->args[j]? =some v->Value.okWide Tryz.prog W .any base t v)
 (hW:DataW.Whole enc Tryz.prog Tryz.f3.params.toList Rows.unfoldingBeginningSpec.vars false W args.toList ds gs before)
 (G:∀x∈DataW.weightsEach Tryz.prog Tryz.f3.params.toList ds,x<=reachBytes)
 (hL:laidMetH Tryz.prog Rows.unfoldingBeginningRow.laid W):
 Calls Tryz.prog 3 args W λ e W'=>∃v,e=.returned v/\Rows.unfoldingBeginningSpec.post enc Tryz.prog Tryz.f3 false true false false W args v W':=by
 have J:=hW;have A:∀q∈before,q.block<W.heap.size:=λ q a=>hW.lt q a
 obtain⟨p,q,K,hV,rfl,ac,ab⟩:=hW;have hA:DataW.TrodAll enc Tryz.prog W 0 (λ _=>true) true Tryz.f3.params.toList args.toList ds p:=K;rw[Tryz.params3]at hA y G;obtain⟨M,vs0,d0,ae,L,q0,Z,rfl,rfl,h0,r0⟩:=trodAll_cons hA;obtain⟨v1,aa,d1,ad,F,q1,rfl,rfl,rfl,h1,r1⟩:=trodAll_cons r0;obtain⟨rfl,rfl,rfl⟩:=trodAll_nil r1;obtain rfl:args= #[M,v1]:=by cases args;simp_all
 obtain⟨rfl,rfl⟩:=trodVars_none hV;clear K;simp only[oq]at J A;have u:Abs.Wt Tryz.prog 27 d0:=λ x hx=>G x (by show x∈DataW.weightsEach Tryz.prog [27,5] [d0,d1];simp only[DataW.weightsEach];exact Ej _ hx)
 obtain⟨c0,c1,c2,c3,c4,y0,y1,y2,y3,y4,n,N,S,t0,t1,t2,t3,t4⟩:=aoW Tryz.underlying27 (by kernel_rfl) (by kernel_rfl) (y 0 27 M rfl rfl) h0;obtain⟨m5,rfl⟩:=okWide_int Tryz.underlying5 (y 1 5 v1 rfl rfl);obtain⟨n1,t5⟩:=h1;have D:Calls Tryz.prog 3 #[M,.int .u8 m5] W (λ e w'=>e=.returned (.bool true)/\Below W.heap.size W w'):=by rw[N];rw[S]at u;exact Abs.ayt Abs.aAc Abs.ER t0 t1 t2 t3 t4 (v5:=.int .u8 m5) t5 (u.struct Tryz.underlying27 (j:=2) rfl rfl) (u.struct Tryz.underlying27 (j:=3) rfl rfl) (ate hL)
 refine D.mono λ e W' ⟨he,Y⟩=>?_
 subst he;refine⟨_,rfl,[d0,d1],[],L++F,[],L++F,[],J,?_,?_,rfl,World.keptBut_mono (λ q a=>⟨a,.inr (.inl a)⟩) (Y.frame (·∈L++F)),λ h=>by cases h⟩;.exact trodAll_cons_mk (shut_bool Tryz.underlying4 _) trodAll_mk0
 .exact⟨L,F,age arG (λ q a=>A q (Ej _ a)) Y h0 _ (λ q a=>by simpa using A q (Ej _ a)),⟨F,[],age lt5 (λ q a=>A q (ND _ a)) Y ⟨n1,t5⟩ _ (λ q a=>by simpa using A q (ND _ a)),rfl,by simp⟩,rfl⟩
noncomputable def OR(os:Os):World:=
 {World.holding Tryz.prog os ⟨#[],#[],[]⟩with heap:=(World.holding Tryz.prog os ⟨#[],#[],[]⟩).heap.modify 0 λ
  |.cells _ t frozen=>.cells (Abs.tab.map λ n=>Value.int .u8 (Int.ofNat n)).toArray t frozen
  |o=>o}
def aAi(os:Os):laidMet Tryz.prog Rows.unfoldingBeginningRow.laid ((OR os).forCall (λ _ _=>0) ⟨#[],#[.agg #[.slice none 0 0,.slice none 0 0,.slice none 0 0,.slice none 0 0,.slice none 0 0],.int .u8 0],[]⟩).memory:=laidMet_of_run' 8 (by kernel_rfl) (by kernel_rfl)
def reads(os:Os){H:Type}(enc:TypeId×Value->H):∃a,DataW.whole enc Tryz.prog ((OR os).forCall (λ _ _=>0) ⟨#[],#[.agg #[.slice none 0 0,.slice none 0 0,.slice none 0 0,.slice none 0 0,.slice none 0 0],.int .u8 0],[]⟩).memory Tryz.f3.params.toList Rows.unfoldingBeginningSpec.vars false #[Value.agg #[.slice none 0 0,.slice none 0 0,.slice none 0 0,.slice none 0 0,.slice none 0 0],.int .u8 0].toList 8=some ([.agg [.nil,.nil,.nil,.nil,.nil],.lit (.int .u8 0)],[],a):=⟨[],by kernel_rfl⟩
set_option maxRecDepth 100000 in
def lifted(os:Os)(a:os.Started)(H:Type)(enc:TypeId×Value->H)(F:Stop.Interp):
 ReturnsInHanded {} Tryz.checked os 3 .any ((OpenSpec.ofChange Rows.unfoldingBeginningSpec).preRow enc Tryz.prog Tryz.f3 Rows.unfoldingBeginningRow.domain false Rows.unfoldingBeginningRow.laid) (((OpenSpec.ofChange Rows.unfoldingBeginningSpec).at F).post enc Tryz.prog Tryz.f3 false true false false):=by
 obtain⟨y,A⟩:=reads os enc;refine returnsInHanded_of_row (C:=Tryz.checked) (s:=OpenSpec.ofChange Rows.unfoldingBeginningSpec) own a (by kernel_rfl) Tryz.func3 (witness_row_at (enc:=enc) (C:=Tryz.checked) false (OR os) #[.agg #[.slice none 0 0,.slice none 0 0,.slice none 0 0,.slice none 0 0,.slice none 0 0],.int .u8 0] rfl (by kernel_rfl) (by kernel_rfl) (by kernel_rfl) (OpenSpec.preRow_of_cond 8 A (by kernel_rfl) (λ k L=>by cases L) (by kernel_rfl) (aAi os))) ?_;intro W base args K J before u G _ _ D S _ _;refine ajm H enc W base args K J before u G (λ x A=>?_) S;have M:J=[]:=by obtain⟨p,q,_,N,_⟩:=G;exact(trodVars_none N).1
 subst M
 have h:=ij.1 D x (by
  have e:(Tryz.f3.params.toList++(OpenSpec.ofChange Rows.unfoldingBeginningSpec).bare.plain.varTypes Tryz.prog)=Tryz.f3.params.toList:=by kernel_rfl
  rw[oq];show x∈DataW.weightsEach Tryz.prog (Tryz.f3.params.toList++(OpenSpec.ofChange Rows.unfoldingBeginningSpec).bare.plain.varTypes Tryz.prog) K;rw[e];exact A)
 simpa using h
def apo:Tryz.pinned.checked.prog.funcNamed Rows.unfoldingBeginningRow.func=some 3:=by kernel_rfl
def apR:Rows.UnfoldingBeginningSaid:=
 OpenClaim.holds_of_cond 3 Tryz.f3 rfl rfl rfl rfl rfl rfl rfl ⟨rfl,rfl,rfl,rfl,rfl⟩ rfl rfl rfl rfl rfl apo Tryz.func3 axt
  (jk (by kernel_rfl)) (by unfold Func.isWrapper;first|(rw[ao (by decide+kernel)];kernel_rfl)|(rw[aj (by decide+kernel)];exact⟨rfl,rfl⟩))
  (λ os a H enc _ F=>by rw[OpenClaim.pre_eq_preRow];exact lifted os a H enc F)
def plain(f:FuncId)(fn:Func)(q:Tryz.pinned.checked.prog.funcNamed "scarfjoint/scarfjointlaw51.UnfoldingBeginning"=some f)(a:Tryz.pinned.checked.prog.funcs[f]? =some fn):
 false=Tryz.pinned.checked.prog.looks []/\∀(j:Nat) t,fn.params[j]? =some t->Tryz.pinned.checked.prog.wantsStandIn t=false:=by
 obtain rfl:f=3:=dU ((show Tryz.prog.funcNamed "scarfjoint/scarfjointlaw51.UnfoldingBeginning"=some 3 by kernel_rfl).symm.trans q)|>.symm;obtain rfl:fn=Tryz.f3:=(dU (Tryz.func3.symm.trans a)).symm;refine⟨by kernel_rfl,λ j t h=>?_⟩;rw[Tryz.params3]at h;rcases(show t=27\/t=5 by simpa using aiO h)with rfl|rfl
 .exact(show Tryz.prog.wantsStandIn 27=false by kernel_rfl)
 .exact(show Tryz.prog.wantsStandIn 5=false by kernel_rfl)
end
end Go.Proofs.YtcmaalfaddllgaaGreatDoor.beginning
