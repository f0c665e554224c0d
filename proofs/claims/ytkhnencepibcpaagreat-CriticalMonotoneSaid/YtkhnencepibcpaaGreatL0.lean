/- Contracts by runs. -/
import Derived.Test.YtkhnencepibcpaaGreatL
set_option linter.all false
set_option maxRecDepth 100000
namespace Go.Abs
noncomputable section
open Go Go.Proofs
def kq0:kq 0=kT:=aH
def kq6:kq 6=kT:=aH
def az3:kq 12=kT:=aH
def asf:kq 18=kT:=aH
def axJ:kq 24=kT:=aH
end
end Go.Abs
