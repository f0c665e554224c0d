/- Names. -/
import Derived.Test.YtkencjbbibdamaaGreatDoorH
import Derived.Test.YtkencjbbibdamaaGreatDoorM
set_option linter.all false
set_option maxRecDepth 100000
namespace Go.Abs
noncomputable section
open Go Go.Proofs
def ayW:gX.all (λ s=>kp false 0 161 (BY s))=true:=by kernel_rfl
def ax1:gX.all (λ s=>kp false 0 147 (BY s))=true:=by kernel_rfl
end
end Go.Abs
