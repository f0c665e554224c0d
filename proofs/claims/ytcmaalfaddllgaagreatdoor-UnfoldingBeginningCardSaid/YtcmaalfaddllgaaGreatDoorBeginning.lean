/- UnfoldingBeginning: for every draft and number that can be read the law returns true, and the arguments read afterwards as they read before. Conditions: those of the given row alone (each slice that is read takes at most 2^47 - 4096 bytes; the table of math/bits is as the program text lays it). -/
import Derived.Test.YtcmaalfaddllgaaGreatDoorT
import Derived.Test.YtcmaalfaddllgaaGreatDoorCards
import Derived.KernelRfl
set_option linter.all false
namespace Go.Proofs.YtcmaalfaddllgaaGreatDoor.beginning
open Go.Abs
noncomputable section
open Go Go.Proofs
def aew:Tryz.prog.funcs.toList.any Func.goes=false:=by kernel_rfl
def ayq(f:FuncId):Tryz.prog.goes f=false:=by
 have h:∀g:FuncId,(Tryz.prog.funcs[g]?).any Func.goes=false:=λ g=>by
  cases q:Tryz.prog.funcs[g]?;.rfl
  rename_i fn;have a:fn∈Tryz.prog.funcs.toList:=by have:=aiO q;simpa using this
  have:=List.any_eq_false.1 aew fn a;simpa using this
 have u:Tryz.prog.funcs.any Func.goes=false:=by rw[<-Array.any_toList];exact aew
 unfold Program.goes;simp only[h,u,aiD,En];simp
def ao8(s:String):Tryz.prog.goesFrom s=false:=by
 have h:∀o:Option FuncId,o.any Tryz.prog.goes=false:=λ o=>by
  cases o;.rfl
  rename_i f;rw[Option.any_some];exact ayq f
 exact h _
def axy(s:String):Tryz.prog.goesAt .entering s=false:=by unfold Program.goesAt;rw[ao8];simp only[Bool.or_self]
def asE:Tryz.pinned.checked.prog=Tryz.prog:=rfl
def ay6:false=Rows.unfoldingBeginningRow.goesBy Tryz.pinned.checked.prog:=by rw[asE];exact(axy Rows.unfoldingBeginningRow.func).symm
def wfT:Rows.unfoldingBeginningRow.wfByText (OpenSpec.ofChange Rows.unfoldingBeginningSpec)=true:=by kernel_rfl
def ast:Tryz.pinned.checked.prog.mainIs=some (true,"c8b9575b2a68f84dc88d831995acbe39b031fa73663a97cfa8f503f1c556fa58".toList):=by kernel_rfl
theorem card:Rows.UnfoldingBeginningCardSaid:=Claim7.holds_tied_plain_at .later [] _ _ _ _ apR (λ _ h=>by cases h) wfT (λ _ h=>by cases h) unfoldingBeginning_row_tie rfl ⟨rfl,rfl⟩ ast rfl plain ay6
end
end Go.Proofs.YtcmaalfaddllgaaGreatDoor.beginning
