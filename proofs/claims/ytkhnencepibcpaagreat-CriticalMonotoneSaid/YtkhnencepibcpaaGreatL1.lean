/- Contracts by runs. -/
import Derived.Test.YtkhnencepibcpaaGreatL
set_option linter.all false
set_option maxRecDepth 100000
namespace Go.Abs
noncomputable section
open Go Go.Proofs
def kq1:kq 1=kT:=aH
def kq7:kq 7=kT:=aH
def awp:kq 13=kT:=aH
def arF:kq 19=kT:=aH
def at6:kq 25=kT:=aH
end
end Go.Abs
