/- Runs of calls. -/
import Derived.Test.YtkhnencepibcpaaGreatT
set_option linter.all false
namespace Go.Abs
noncomputable section
open Go Go.Proofs
def B3(h:bm A2):bm A3:=bQ<|bQ<|bQ<|bQ<|bQ<|h
def B9(h:bm A8):bm A9:=bQ<|h
def B15(h:bm Xa):bm Xd:=bQ<|h
def B21(h:bm A20):bm Z1:=bQ<|h
def B27(h:bm VD):bm U2:=bQ<|h
def B33(h:bm A32):bm ZY:=bQ<|h
def B39(h:bm XW):bm A39t:=bQ<|h
def B45(h:bm A44):bm X1:=bQ<|h
def B51(h:bm ZU):bm A51:=bQ<|h
def B57(h:bm Yr):bm Wi:=bQ<|h
def B63(h:bm A62):bm Xk:=bQ<|h
def B69(h:bm Wn):bm A69:=bQ<|h
end
end Go.Abs
