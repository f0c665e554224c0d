/- Runs of calls. -/
import Derived.Test.YtkhnencepibcpaaGreatT
set_option linter.all false
namespace Go.Abs
noncomputable section
open Go Go.Proofs
def B4(h:bm A3):bm A4:=bQ<|bQ<|bQ<|bQ<|bQ<|h
def B10(h:bm A9):bm VY:=bQ<|h
def B16(h:bm Xd):bm A16:=bQ<|h
def B22(h:bm Z1):bm A22:=bQ<|h
def B28(h:bm U2):bm YI:=bQ<|h
def B34(h:bm ZY):bm A34:=bQ<|h
def B40(h:bm A39t):bm Wv:=bQ<|h
def B46(h:bm X1):bm A46:=bQ<|h
def B52(h:bm A51):bm W6:=bQ<|h
def B58(h:bm Wi):bm VV:=bQ<|h
def B64(h:bm Xk):bm A64:=bQ<|h
def B70(h:bm A69):bm WM:=bQ<|h
end
end Go.Abs
