/- Contracts by runs. -/
import Derived.Test.YtkhnencepibcpaaGreatL
set_option linter.all false
set_option maxRecDepth 100000
namespace Go.Abs
noncomputable section
open Go Go.Proofs
def kq3:kq 3=kT:=aH
def kq9:kq 9=kT:=aH
def ax3:kq 15=kT:=aH
def aEm:kq 21=kT:=aH
def aJU:kq 27=kT:=aH
end
end Go.Abs
