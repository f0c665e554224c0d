/- The self-test awake. -/
import Derived.Test.YtkhnencepibcpaaGreatR
import Derived.Test.YtkhnencepibcpaaGreatU5
set_option linter.all false
namespace Go.Abs
noncomputable section
open Go Go.Proofs
def aGe:Q5:=by
 intro H Bqq ρ w A s hx;obtain⟨D,u⟩:=ai6 goE;have y:∀{c:Nat} {r:Row},hE.ah.get c=some r->False:=λ h=>by cases h
 exact arW (aoj ab8 aIL) u rfl (λ c r h=>(y h).elim) (aZ 0) (λ c r h=>(y h).elim) Bqq ρ w A s hx
end
end Go.Abs
