/- Contracts by runs. -/
import Derived.Test.YtkhnencepibcpaaGreatL
set_option linter.all false
set_option maxRecDepth 100000
namespace Go.Abs
noncomputable section
open Go Go.Proofs
def kq5:kq 5=kT:=aH
def ayC:kq 11=kT:=aH
def asU:kq 17=kT:=aH
def aEn:kq 23=kT:=aH
end
end Go.Abs
