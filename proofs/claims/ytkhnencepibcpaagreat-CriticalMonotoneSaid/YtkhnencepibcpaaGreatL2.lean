/- Contracts by runs. -/
import Derived.Test.YtkhnencepibcpaaGreatL
set_option linter.all false
set_option maxRecDepth 100000
namespace Go.Abs
noncomputable section
open Go Go.Proofs
def kq2:kq 2=kT:=aH
def kq8:kq 8=kT:=aH
def aqJ:kq 14=kT:=aH
def aAh:kq 20=kT:=aH
def aJp:kq 26=kT:=aH
end
end Go.Abs
