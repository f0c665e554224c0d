/- UnfoldingTurned: for every draft that can be read the law returns true, and the argument reads afterwards as it read before. Conditions: those of the given row alone (each slice that is read takes at most 2^47 - 4096 bytes; the table of math/bits is as the program text lays it). -/
import Derived.Test.YtkencjbbibdamaaGreatDoorT
import Derived.Test.YtkencjbbibdamaaGreatDoorCards
import Derived.KernelRfl
set_option linter.all false
namespace Go.Proofs.YtkencjbbibdamaaGreatDoor.turned
open Go.Abs
noncomputable section
open Go Go.Proofs
def aew:Tryz.prog.funcs.toList.any Func.goes=false:=by kernel_rfl
def ayq(f:FuncId):Tryz.prog.goes f=false:=by
 have h:∀g:FuncId,(Tryz.prog.funcs[g]?).any Func.goes=false:=λ g=>by
  cases q:Tryz.prog.funcs[g]?;.rfl
  rename_i fn;have a:fn∈Tryz.prog.funcs.toList:=by have:=aiO q;simpa using this
  have:=List.any_eq_false.1 aew fn a;simpa using this
 have y:Tryz.prog.funcs.any Func.goes=false:=by rw[<-Array.any_toList];exact aew
 unfold Program.goes;simp only[h,y,aiD,En];simp
def ao8(s:String):Tryz.prog.goesFrom s=false:=by
 have h:∀o:Option FuncId,o.any Tryz.prog.goes=false:=λ o=>by
  cases o;.rfl
  rename_i f;rw[Option.any_some];exact ayq f
 exact h _
def axy(s:String):Tryz.prog.goesAt .entering s=false:=by unfold Program.goesAt;rw[ao8];simp only[Bool.or_self]
def asE:Tryz.pinned.checked.prog=Tryz.prog:=rfl
def ay6:false=Rows.unfoldingTurnedRow.goesBy Tryz.pinned.checked.prog:=by rw[asE];exact(axy Rows.unfoldingTurnedRow.func).symm
def wfT:Rows.unfoldingTurnedRow.wfByText (OpenSpec.ofChange Rows.unfoldingTurnedSpec)=true:=by kernel_rfl
def ast:Tryz.pinned.checked.prog.mainIs=some (true,"a6fba684f2c19d8034bfabe44a07a76de6e455ab0559137ed96a3539a2223a4e".toList):=by kernel_rfl
theorem card:Rows.UnfoldingTurnedCardSaid:=Claim7.holds_tied_plain_at .later [] _ _ _ _ apR (λ _ h=>by cases h) wfT (λ _ h=>by cases h) unfoldingTurned_row_tie rfl ⟨rfl,rfl⟩ ast rfl plain ay6
end
end Go.Proofs.YtkencjbbibdamaaGreatDoor.turned
