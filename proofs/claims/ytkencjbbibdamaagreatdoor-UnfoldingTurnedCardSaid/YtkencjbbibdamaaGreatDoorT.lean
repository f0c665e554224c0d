/- The contract of the law. -/
import Derived.Test.YtkencjbbibdamaaGreatDoorP
import Derived.Test.YtkencjbbibdamaaGreatDoorR
import Derived.Test.YtkencjbbibdamaaGreatDoorS
import Derived.Test.YtkencjbbibdamaaGreatDoorCards
import Derived.Test.YtkencjbbibdamaaGreatDoorTie
import Derived.WalkKit
import Derived.ProofKit
import Derived.OpenShut
import Derived.ReadAgain
import Derived.Lib.SmallJoins
import Derived.Deep.DeepHandedRow
import Derived.Lib.LaidTab
set_option linter.all false
namespace Go.Proofs.YtkencjbbibdamaaGreatDoor.turned
open Go.Abs
noncomputable section
open Go.ChangeShapes Go.WideShapes Go.ChangeAt Go.RowKit Go.Joins Go.Deep
def own:ownKnob Tryz.prog.godebug=none:=by kernel_rfl
def aef:Tryz.prog.globalNamed "math/bits.deBruijn64tab"=some 0:=by kernel_rfl
def aja:(Tryz.prog.globals[0]?).map (·.type)=some 233:=by kernel_rfl
def auy:Tryz.prog.cellsOf 233=64:=by kernel_rfl
def atm:Tryz.prog.cellsOf 5=1:=by kernel_rfl
def ajl:Kids Tryz.prog (·<Tryz.prog.types.size):=kids_rows (by kernel_rfl) (by kernel_rfl)
def an4:∀t e,t<Tryz.prog.types.size->Tryz.prog.underlying t=some (.slice e)->0<Tryz.prog.cellsOf e:=slices_full_of Tryz.prog (by kernel_rfl)
def arG:27<Tryz.prog.types.size:=jk (by kernel_rfl)
def ajf:Rows.unfoldingTurnedRow.laid=[("math/bits.deBruijn64tab",Lib.tabData .u8 (Abs.tab.map Int.ofNat))]:=by kernel_rfl
def ai5{W:World}(h:laidMetH Tryz.prog Rows.unfoldingTurnedRow.laid W):Lib.TabIs Tryz.prog W "math/bits.deBruijn64tab" .u8 (Abs.tab.map Int.ofNat):=by rw[ajf]at h;exact Lib.tabIs_of_head (rest:=[]) aef aja Tryz.underlying233 Tryz.underlying5 atm auy h
def afc:(Abs.tab.map Int.ofNat).length=64:=by kernel_rfl
def ate{W:World}(h:laidMetH Tryz.prog Rows.unfoldingTurnedRow.laid W)(i:Nat)(hi:i<64):W.cell? ⟨0,i,none⟩=some (.int .u8 (.ofNat (Abs.tab.getD i 0))):=by
 have:=(ai5 h).cell aef i (by rw[afc];exact hi);rw[this];have a:i<Abs.tab.length:=by have:=afc;rw[aF]at this;omega
 simp[List.getD,a]
def age{H:Type}{enc:TypeId×Value->H}{W A:World}{t:TypeId}{v:Value}{d:DataW H}{p:List MemPlace}(F:t<Tryz.prog.types.size)(y:∀q∈p,q.block<W.heap.size)(K:Below W.heap.size W A)(h:DataW.Trod enc Tryz.prog W 0 (λ _=>true) true t v d p)(D:Nat->Bool)(a:∀q∈p,D q.block=true):
 DataW.Trod enc Tryz.prog A 0 D true t v d p:=by
 obtain⟨n,J⟩:=h;have L:DataW.Trod enc Tryz.prog A 0 (λ _=>true) true t v d p:=⟨n,DataW.trod_carry n _ _ _ J λ q G=>K.same (y q G)⟩;exact L.respare ajl an4 F a
def akD{α:Type}{cs:Array α}(h:cs.size=5):∃D A y q a,cs= #[D,A,y,q,a]:=by
 obtain⟨l⟩:=cs
 match l,h with
 |[D,A,y,q,a],_=>exact⟨D,A,y,q,a,rfl⟩
section
variable{H:Type}{enc:TypeId×Value->H}{P:Program}{w:World}{base:Nat}{spare:Nat->Bool}{held:Bool}
def atU{t:TypeId}{N M L K J:Field}{G:Nat}{cs:List Value}{x:DataW H×List MemPlace}(Y:P.underlying t=some (.struct #[N,M,L,K,J]))(h:DataW.trod enc P w base spare held G t cs=some x):
 ∃A y q a y4 n,x=(.agg [A.1,y.1,q.1,a.1,y4.1],A.2++(y.2++(q.2++(a.2++y4.2))))/\DataW.trod enc P w base spare held n N.type ((cs.drop N.offset).take (P.cellsOf N.type))=some A/\
  DataW.trod enc P w base spare held n M.type ((cs.drop M.offset).take (P.cellsOf M.type))=some y/\DataW.trod enc P w base spare held n L.type ((cs.drop L.offset).take (P.cellsOf L.type))=some q/\
  DataW.trod enc P w base spare held n K.type ((cs.drop K.offset).take (P.cellsOf K.type))=some a/\DataW.trod enc P w base spare held n J.type ((cs.drop J.offset).take (P.cellsOf J.type))=some y4:=by
 obtain⟨S,n,_,rfl,Z,D,F⟩:=DataW.trod_struct Y h
 match S,D with
 |[A,y,q,a,y4],_=>exact⟨A,y,q,a,y4,n,by simp,by simpa using F 0 N rfl,by simpa using F 1 M rfl,by simpa using F 2 L rfl,by simpa using F 3 K rfl,by simpa using F 4 J rfl⟩
def aoW{r:Reach}{b0:Nat}{t:TypeId}{L K J G F:Field}{v:Value}{d:DataW H}{p:List MemPlace}(hs:P.underlying t=some (.struct #[L,K,J,G,F]))(a:oneCellFields P #[L,K,J,G,F]=true)(hC:P.cellsOf t=5)
 (hv:Value.okWide P w r b0 t v) (h:DataW.Trod enc P w base spare held t v d p):
 ∃(v0 Z Y S N:Value) (D A y q y4:DataW H×List MemPlace) (n:Nat),v=.agg #[v0,Z,Y,S,N]/\d=.agg [D.1,A.1,y.1,q.1,y4.1]/\DataW.trod enc P w base spare held n L.type [v0]=some D/\DataW.trod enc P w base spare held n K.type [Z]=some A/\DataW.trod enc P w base spare held n J.type [Y]=some y/\DataW.trod enc P w base spare held n G.type [S]=some q/\DataW.trod enc P w base spare held n F.type [N]=some y4:=by
 obtain⟨cs,rfl,M⟩:=okWide_struct hs hv;obtain⟨c0,c1,c2,c3,c4,rfl⟩:=akD (M.trans hC);obtain⟨aa,hf⟩:=h;obtain⟨D,A,y,q,y4,n,hx,h0,h1,h2,h3,h4⟩:=atU hs hf;obtain⟨o0,k0⟩:=hone_of a 0 L rfl;obtain⟨o1,k1⟩:=hone_of a 1 K rfl;obtain⟨o2,k2⟩:=hone_of a 2 J rfl;obtain⟨o3,k3⟩:=hone_of a 3 G rfl;obtain⟨o4,k4⟩:=hone_of a 4 F rfl;simp only[Ei]at hx;exact⟨c0,c1,c2,c3,c4,D,A,y,q,y4,n,rfl,hx.1,by simpa[Value.cells,o0,k0]using h0,by simpa[Value.cells,o1,k1]using h1,by simpa[Value.cells,o2,k2]using h2,by simpa[Value.cells,o3,k3]using h3,by simpa[Value.cells,o4,k4]using h4⟩
end
set_option maxRecDepth 100000 in
def ajm(H:Type)(enc:TypeId×Value->H)(W:World)(base:Nat)(args:Array Value)(ds gs:List (DataW H))(before:List MemPlace)
 (y:∀(j:Nat) t v,Tryz.f3.params[j]? =some t->args[j]? =some v->Value.okWide Tryz.prog W .any base t v)
 (Z:DataW.Whole enc Tryz.prog Tryz.f3.params.toList Rows.unfoldingTurnedSpec.vars false W args.toList ds gs before)
 (G:∀x∈DataW.weightsEach Tryz.prog Tryz.f3.params.toList ds,x<=reachBytes)
 (hL:laidMetH Tryz.prog Rows.unfoldingTurnedRow.laid W):
 Calls Tryz.prog 3 args W λ e W'=>∃v,e=.returned v/\Rows.unfoldingTurnedSpec.post enc Tryz.prog Tryz.f3 false true false false W args v W':=by
 have J:=Z;have A:∀q∈before,q.block<W.heap.size:=λ q D=>Z.lt q D
 obtain⟨p,q,K,hV,rfl,ab,aa⟩:=Z;have hA:DataW.TrodAll enc Tryz.prog W 0 (λ _=>true) true Tryz.f3.params.toList args.toList ds p:=K;rw[Tryz.params3]at hA y G;obtain⟨M,vs0,d0,ac,L,q0,Y,rfl,rfl,h0,r0⟩:=trodAll_cons hA;obtain⟨rfl,rfl,rfl⟩:=trodAll_nil r0;obtain rfl:args= #[M]:=by cases args;simp_all
 obtain⟨rfl,rfl⟩:=trodVars_none hV;clear K;simp only[oq]at J A;have a:Abs.Wt Tryz.prog 27 d0:=λ x hx=>G x (by show x∈DataW.weightsEach Tryz.prog [27] [d0];simp only[DataW.weightsEach];exact Ej _ hx)
 obtain⟨c0,c1,c2,c3,c4,y0,y1,y2,y3,y4,n,N,S,t0,t1,t2,t3,t4⟩:=aoW Tryz.underlying27 (by kernel_rfl) (by kernel_rfl) (y 0 27 M rfl rfl) h0;have F:Calls Tryz.prog 3 #[M] W (λ e w'=>e=.returned (.bool true)/\Below W.heap.size W w'):=by rw[N];rw[S]at a;exact Abs.ayt Abs.aAc Abs.ER t0 t1 t2 t3 t4 (a.struct Tryz.underlying27 (j:=2) rfl rfl) (a.struct Tryz.underlying27 (j:=3) rfl rfl) (ate hL)
 refine F.mono λ e W' ⟨he,hb⟩=>?_
 subst he;refine⟨_,rfl,[d0],[],L,[],L,[],J,?_,?_,rfl,World.keptBut_mono (λ q D=>⟨D,.inr (.inl D)⟩) (hb.frame (·∈L)),λ h=>by cases h⟩;.exact trodAll_cons_mk (shut_bool Tryz.underlying4 _) trodAll_mk0
 .exact⟨L,[],age arG A hb h0 _ (λ q D=>by simpa using A q D),rfl,by simp⟩
def OR(os:Os):World:=
 {World.holding Tryz.prog os ⟨#[],#[],[]⟩with heap:=(World.holding Tryz.prog os ⟨#[],#[],[]⟩).heap.modify 0 λ
  |.cells _ t frozen=>.cells (Abs.tab.map λ n=>Value.int .u8 (Int.ofNat n)).toArray t frozen
  |o=>o}
def aAi(os:Os):laidMet Tryz.prog Rows.unfoldingTurnedRow.laid ((OR os).forCall (λ _ _=>0) ⟨#[],#[.agg #[.slice none 0 0,.slice none 0 0,.slice none 0 0,.slice none 0 0,.slice none 0 0]],[]⟩).memory:=laidMet_of_run' 8 (by kernel_rfl) (by kernel_rfl)
def reads(os:Os){H:Type}(enc:TypeId×Value->H):∃a,DataW.whole enc Tryz.prog ((OR os).forCall (λ _ _=>0) ⟨#[],#[.agg #[.slice none 0 0,.slice none 0 0,.slice none 0 0,.slice none 0 0,.slice none 0 0]],[]⟩).memory Tryz.f3.params.toList Rows.unfoldingTurnedSpec.vars false #[Value.agg #[.slice none 0 0,.slice none 0 0,.slice none 0 0,.slice none 0 0,.slice none 0 0]].toList 8=some ([.agg [.nil,.nil,.nil,.nil,.nil]],[],a):=⟨[],by kernel_rfl⟩
set_option maxRecDepth 100000 in
def lifted(os:Os)(a:os.Started)(H:Type)(enc:TypeId×Value->H)(F:Stop.Interp):
 ReturnsInHanded {} Tryz.checked os 3 .any ((OpenSpec.ofChange Rows.unfoldingTurnedSpec).preRow enc Tryz.prog Tryz.f3 Rows.unfoldingTurnedRow.domain false Rows.unfoldingTurnedRow.laid) (((OpenSpec.ofChange Rows.unfoldingTurnedSpec).at F).post enc Tryz.prog Tryz.f3 false true false false):=by
 obtain⟨A,D⟩:=reads os enc;refine returnsInHanded_of_row (C:=Tryz.checked) (s:=OpenSpec.ofChange Rows.unfoldingTurnedSpec) own a (by kernel_rfl) Tryz.func3 (witness_row_at (enc:=enc) (C:=Tryz.checked) false (OR os) #[.agg #[.slice none 0 0,.slice none 0 0,.slice none 0 0,.slice none 0 0,.slice none 0 0]] rfl (by kernel_rfl) (by kernel_rfl) (by kernel_rfl) (OpenSpec.preRow_of_cond 8 D (by kernel_rfl) (λ k M=>by cases M) (by kernel_rfl) (aAi os))) ?_;intro W base args L K before y J _ _ G Y _ _;refine ajm H enc W base args L K before y J (λ x D=>?_) Y;have N:K=[]:=by obtain⟨p,q,_,S,_⟩:=J;exact(trodVars_none S).1
 subst N
 have h:=ij.1 G x (by
  have e:(Tryz.f3.params.toList++(OpenSpec.ofChange Rows.unfoldingTurnedSpec).bare.plain.varTypes Tryz.prog)=Tryz.f3.params.toList:=by kernel_rfl
  rw[oq];show x∈DataW.weightsEach Tryz.prog (Tryz.f3.params.toList++(OpenSpec.ofChange Rows.unfoldingTurnedSpec).bare.plain.varTypes Tryz.prog) L;rw[e];exact D)
 simpa using h
def apo:Tryz.pinned.checked.prog.funcNamed Rows.unfoldingTurnedRow.func=some 3:=by kernel_rfl
def apR:Rows.UnfoldingTurnedSaid:=
 OpenClaim.holds_of_cond 3 Tryz.f3 rfl rfl rfl rfl rfl rfl rfl ⟨rfl,rfl,rfl,rfl,rfl⟩ rfl rfl rfl rfl rfl apo Tryz.func3 axt
  (jk (by kernel_rfl)) (by unfold Func.isWrapper;first|(rw[ao (by decide+kernel)];kernel_rfl)|(rw[aj (by decide+kernel)];exact⟨rfl,rfl⟩))
  (λ os a H enc _ F=>by rw[OpenClaim.pre_eq_preRow];exact lifted os a H enc F)
def plain(f:FuncId)(fn:Func)(q:Tryz.pinned.checked.prog.funcNamed "scarfjoint/scarfjointlaw51.UnfoldingTurned"=some f)(a:Tryz.pinned.checked.prog.funcs[f]? =some fn):
 false=Tryz.pinned.checked.prog.looks []/\∀(j:Nat) t,fn.params[j]? =some t->Tryz.pinned.checked.prog.wantsStandIn t=false:=by
 obtain rfl:f=3:=dU ((show Tryz.prog.funcNamed "scarfjoint/scarfjointlaw51.UnfoldingTurned"=some 3 by kernel_rfl).symm.trans q)|>.symm;obtain rfl:fn=Tryz.f3:=(dU (Tryz.func3.symm.trans a)).symm;refine⟨by kernel_rfl,λ j t h=>?_⟩;rw[Tryz.params3]at h;obtain rfl:t=27:=by simpa using aiO h
 exact(show Tryz.prog.wantsStandIn 27=false by kernel_rfl)
end
end Go.Proofs.YtkencjbbibdamaaGreatDoor.turned
