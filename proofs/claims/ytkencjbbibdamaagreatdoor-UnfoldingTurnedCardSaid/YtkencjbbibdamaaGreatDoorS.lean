/- The closed facts of the row. -/
import Derived.Test.YtkencjbbibdamaaGreatDoorBase
import Derived.Test.YtkencjbbibdamaaGreatDoorRows
import Derived.JoinedCond
import Derived.KernelRfl
set_option linter.all false
namespace Go.Proofs.YtkencjbbibdamaaGreatDoor.turned
open Go.Abs
noncomputable section
def iu{a b:Bool}(h:a=true)(k:b=true):(a&&b)=true:=by rw[h,k];rfl
def akY:(Rows.unfoldingTurnedRow.wf (OpenSpec.ofChange (OpenSpec.ofChange Rows.unfoldingTurnedSpec).bare))=true:=by kernel_rfl
def al8:(laidOutB Tryz.prog)=true:=by kernel_rfl
def aq9:(mapsRowed Tryz.prog)=true:=by kernel_rfl
def anL:(Tryz.f3.params.all (Tryz.prog.readableRec ·))=true:=by kernel_rfl
def ayr:(namedTie Tryz.prog Rows.unfoldingTurnedRow.named (OpenSpec.ofChange Rows.unfoldingTurnedSpec).bare.vars)=true:=by kernel_rfl
def akP:((Rows.unfoldingTurnedRow.stops==[]))=true:=by kernel_rfl
def aq4:((Tryz.prog.stops==[]))=true:=by kernel_rfl
def awC:((Rows.unfoldingTurnedRow.knobs==[]))=true:=by kernel_rfl
def avm:((Tryz.prog.stopKnobs==[]))=true:=by kernel_rfl
def avs:((Rows.unfoldingTurnedRow.inPlace==Tryz.prog.inPlace 3))=true:=by kernel_rfl
def al6:((Rows.unfoldingTurnedRow.unfollowed==Tryz.prog.unfollowed 3))=true:=by kernel_rfl
def axZ:((Rows.unfoldingTurnedRow.recurses==Tryz.prog.recurses 3))=true:=by kernel_rfl
def aAU:((Rows.unfoldingTurnedRow.named==Tryz.prog.varsNamed 3))=true:=by kernel_rfl
def alK:((Rows.unfoldingTurnedRow.maps==(Tryz.f3.params.toList++(OpenSpec.ofChange Rows.unfoldingTurnedSpec).bare.plain.varTypes Tryz.prog).any (Tryz.prog.mapsRec ·)))=true:=by kernel_rfl
def al2:((Rows.unfoldingTurnedRow.ifaces==(Tryz.f3.params.toList++(OpenSpec.ofChange Rows.unfoldingTurnedSpec).bare.plain.varTypes Tryz.prog).any (Tryz.prog.ifacesRec ·)))=true:=by kernel_rfl
def aAX:((Rows.unfoldingTurnedRow.mapsOut==Tryz.prog.mapsAmong Tryz.f3.resultTypes.toList))=true:=by kernel_rfl
def asq:((Rows.unfoldingTurnedRow.loops==(Tryz.f3.params.toList++(OpenSpec.ofChange Rows.unfoldingTurnedSpec).bare.plain.varTypes Tryz.prog).any (Tryz.prog.loopsFrom ·)))=true:=by kernel_rfl
def ai8:((Rows.unfoldingTurnedRow.wideKeys==(Tryz.f3.params.toList++(OpenSpec.ofChange Rows.unfoldingTurnedSpec).bare.plain.varTypes Tryz.prog++Tryz.f3.resultTypes.toList).any (Tryz.prog.wideKeysFrom ·)))=true:=by kernel_rfl
def awe:((OpenSpec.ofChange Rows.unfoldingTurnedSpec).bare.vars.all (Tryz.prog.varReadable ·))=true:=by kernel_rfl
def arW:(Tryz.f3.resultTypes.all (λ t=>Tryz.prog.readableRec t&&decide (t<Tryz.prog.types.size)))=true:=by kernel_rfl
def auG:((Rows.unfoldingTurnedRow.ifacesOut==Tryz.f3.resultTypes.toList.any (Tryz.prog.ifacesRec ·)))=true:=by kernel_rfl
def av0:((Rows.unfoldingTurnedRow.loopsOut==Tryz.f3.resultTypes.toList.any (Tryz.prog.loopsFrom ·)))=true:=by kernel_rfl
def aok:((Rows.unfoldingTurnedRow.plainKeys==Tryz.prog.plainKeys))=true:=by kernel_rfl
def awO:(Rows.unfoldingTurnedRow.shortTexts.isNone)=true:=by kernel_rfl
def asZ:(Tryz.prog.stopsHeard)=true:=by kernel_rfl
def anA:(Tryz.prog.mayEnter)=true:=by kernel_rfl
def amR:((Rows.unfoldingTurnedRow.lifted==Tryz.prog.liftsFinal))=true:=by kernel_rfl
def aoS:((Tryz.prog.make==some Rows.unfoldingTurnedRow.make))=true:=by kernel_rfl
def ap8:((Rows.unfoldingTurnedRow.kinds==(if Rows.unfoldingTurnedRow.domain.isEmpty then[]else Tryz.f3.params.toList.map λ t=>match Tryz.prog.underlying t with|some (.int k)=>some k|_=>none)))=true:=by kernel_rfl
def aly:((Rows.unfoldingTurnedRow.pinned==Rows.unfoldingTurnedRow.pinnedBy))=true:=by kernel_rfl
def am0:((Rows.unfoldingTurnedRow.veiled==(Tryz.f3.params.toList++(OpenSpec.ofChange Rows.unfoldingTurnedSpec).bare.plain.varTypes Tryz.prog++Tryz.f3.resultTypes.toList).any (Tryz.prog.veiledRec ·)))=true:=by kernel_rfl
def axX:(Rows.unfoldingTurnedRow.veiledFits Tryz.prog Tryz.f3.params.toList (Tryz.f3.params.toList++(OpenSpec.ofChange Rows.unfoldingTurnedSpec).bare.plain.varTypes Tryz.prog++Tryz.f3.resultTypes.toList))=true:=by kernel_rfl
set_option maxRecDepth 100000 in
def axt:joinedFacts Tryz.prog 3 Tryz.f3 (OpenSpec.ofChange Rows.unfoldingTurnedSpec).bare Rows.unfoldingTurnedRow=true:=(iu (iu (iu (iu (iu (iu (iu (iu (iu (iu (iu (iu (iu (iu (iu (iu (iu (iu (iu (iu (iu (iu (iu (iu (iu (iu (iu (iu (iu (iu (iu akY al8) aq9) anL) ayr) akP) aq4) awC) avm) avs) al6) axZ) aAU) alK) al2) aAX) asq) ai8) awe) arW) auG) av0) aok) awO) asZ) anA) amR) aoS) ap8) aly) am0) axX)
end
end Go.Proofs.YtkencjbbibdamaaGreatDoor.turned
