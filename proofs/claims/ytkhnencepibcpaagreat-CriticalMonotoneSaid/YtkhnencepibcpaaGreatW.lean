/- The closed facts of the row. -/
import Derived.Test.YtkhnencepibcpaaGreatBase
import Derived.Test.YtkhnencepibcpaaGreatRows
import Derived.JoinedCond
import Derived.KernelRfl
set_option linter.all false
namespace Go.Proofs.YtkhnencepibcpaaGreat.monotone
open Go.Abs
noncomputable section
def kV{a b:Bool}(h:a=true)(k:b=true):(a&&b)=true:=by rw[h,k];rfl
def azG:(Rows.criticalMonotoneRow.wf (OpenSpec.ofChange (OpenSpec.ofChange Rows.criticalMonotoneSpec).bare))=true:=by kernel_rfl
def awi:(laidOutB Tryz.prog)=true:=by kernel_rfl
def aCG:(mapsRowed Tryz.prog)=true:=by kernel_rfl
def aFT:(Tryz.f3.params.all (Tryz.prog.readableRec ·))=true:=by kernel_rfl
def aGh:(namedTie Tryz.prog Rows.criticalMonotoneRow.named (OpenSpec.ofChange Rows.criticalMonotoneSpec).bare.vars)=true:=by kernel_rfl
def auH:((Rows.criticalMonotoneRow.stops==[]))=true:=by kernel_rfl
def azo:((Tryz.prog.stops==[]))=true:=by kernel_rfl
def auE:((Rows.criticalMonotoneRow.knobs==[]))=true:=by kernel_rfl
def aIz:((Tryz.prog.stopKnobs==[]))=true:=by kernel_rfl
def aun:((Rows.criticalMonotoneRow.inPlace==Tryz.prog.inPlace 3))=true:=by kernel_rfl
def aCJ:((Rows.criticalMonotoneRow.unfollowed==Tryz.prog.unfollowed 3))=true:=by kernel_rfl
def aGf:((Rows.criticalMonotoneRow.recurses==Tryz.prog.recurses 3))=true:=by kernel_rfl
def aqN:((Rows.criticalMonotoneRow.named==Tryz.prog.varsNamed 3))=true:=by kernel_rfl
def aJA:((Rows.criticalMonotoneRow.maps==(Tryz.f3.params.toList++(OpenSpec.ofChange Rows.criticalMonotoneSpec).bare.plain.varTypes Tryz.prog).any (Tryz.prog.mapsRec ·)))=true:=by kernel_rfl
def avl:((Rows.criticalMonotoneRow.ifaces==(Tryz.f3.params.toList++(OpenSpec.ofChange Rows.criticalMonotoneSpec).bare.plain.varTypes Tryz.prog).any (Tryz.prog.ifacesRec ·)))=true:=by kernel_rfl
def auc:((Rows.criticalMonotoneRow.mapsOut==Tryz.prog.mapsAmong Tryz.f3.resultTypes.toList))=true:=by kernel_rfl
def az0:((Rows.criticalMonotoneRow.loops==(Tryz.f3.params.toList++(OpenSpec.ofChange Rows.criticalMonotoneSpec).bare.plain.varTypes Tryz.prog).any (Tryz.prog.loopsFrom ·)))=true:=by kernel_rfl
def aFr:((Rows.criticalMonotoneRow.wideKeys==(Tryz.f3.params.toList++(OpenSpec.ofChange Rows.criticalMonotoneSpec).bare.plain.varTypes Tryz.prog++Tryz.f3.resultTypes.toList).any (Tryz.prog.wideKeysFrom ·)))=true:=by kernel_rfl
def aG6:((OpenSpec.ofChange Rows.criticalMonotoneSpec).bare.vars.all (Tryz.prog.varReadable ·))=true:=by kernel_rfl
def aHi:(Tryz.f3.resultTypes.all (λ t=>Tryz.prog.readableRec t&&decide (t<Tryz.prog.types.size)))=true:=by kernel_rfl
def aEL:((Rows.criticalMonotoneRow.ifacesOut==Tryz.f3.resultTypes.toList.any (Tryz.prog.ifacesRec ·)))=true:=by kernel_rfl
def avp:((Rows.criticalMonotoneRow.loopsOut==Tryz.f3.resultTypes.toList.any (Tryz.prog.loopsFrom ·)))=true:=by kernel_rfl
def aI6:((Rows.criticalMonotoneRow.plainKeys==Tryz.prog.plainKeys))=true:=by kernel_rfl
def azk:(Rows.criticalMonotoneRow.shortTexts.isNone)=true:=by kernel_rfl
def aqk:(Tryz.prog.stopsHeard)=true:=by kernel_rfl
def ayr:(Tryz.prog.mayEnter)=true:=by kernel_rfl
def atA:((Rows.criticalMonotoneRow.lifted==Tryz.prog.liftsFinal))=true:=by kernel_rfl
def atM:((Tryz.prog.make==some Rows.criticalMonotoneRow.make))=true:=by kernel_rfl
def aHo:((Rows.criticalMonotoneRow.kinds==(if Rows.criticalMonotoneRow.domain.isEmpty then[]else Tryz.f3.params.toList.map λ t=>match Tryz.prog.underlying t with|some (.int k)=>some k|_=>none)))=true:=by kernel_rfl
def aI8:((Rows.criticalMonotoneRow.pinned==Rows.criticalMonotoneRow.pinnedBy))=true:=by kernel_rfl
def aBq:((Rows.criticalMonotoneRow.veiled==(Tryz.f3.params.toList++(OpenSpec.ofChange Rows.criticalMonotoneSpec).bare.plain.varTypes Tryz.prog++Tryz.f3.resultTypes.toList).any (Tryz.prog.veiledRec ·)))=true:=by kernel_rfl
def aG7:(Rows.criticalMonotoneRow.veiledFits Tryz.prog Tryz.f3.params.toList (Tryz.f3.params.toList++(OpenSpec.ofChange Rows.criticalMonotoneSpec).bare.plain.varTypes Tryz.prog++Tryz.f3.resultTypes.toList))=true:=by kernel_rfl
set_option maxRecDepth 100000 in
def azS:joinedFacts Tryz.prog 3 Tryz.f3 (OpenSpec.ofChange Rows.criticalMonotoneSpec).bare Rows.criticalMonotoneRow=true:=(kV (kV (kV (kV (kV (kV (kV (kV (kV (kV (kV (kV (kV (kV (kV (kV (kV (kV (kV (kV (kV (kV (kV (kV (kV (kV (kV (kV (kV (kV (kV azG awi) aCG) aFT) aGh) auH) azo) auE) aIz) aun) aCJ) aGf) aqN) aJA) avl) auc) az0) aFr) aG6) aHi) aEL) avp) aI6) azk) aqk) ayr) atA) atM) aHo) aI8) aBq) aG7)
end
end Go.Proofs.YtkhnencepibcpaaGreat.monotone
