/- Contracts by runs. -/
import Derived.Test.YtkhnencepibcpaaGreatL
set_option linter.all false
set_option maxRecDepth 100000
namespace Go.Abs
noncomputable section
open Go Go.Proofs
def kq4:kq 4=kT:=aH
def azX:kq 10=kT:=aH
def aq7:kq 16=kT:=aH
def ay2:kq 22=kT:=aH
end
end Go.Abs
