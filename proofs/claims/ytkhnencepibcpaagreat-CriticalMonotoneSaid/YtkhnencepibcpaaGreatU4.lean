/- Runs of calls. -/
import Derived.Test.YtkhnencepibcpaaGreatT
set_option linter.all false
namespace Go.Abs
noncomputable section
open Go Go.Proofs
def B5(h:bm A4):bm A5:=bQ<|h
def B11(h:bm VY):bm Xm:=bQ<|h
def B17(h:bm A16):bm Xb:=bQ<|h
def B23(h:bm A22):bm Yj:=bQ<|h
def B29(h:bm YI):bm ZC:=bQ<|h
def B35(h:bm A34):bm Xq:=bQ<|h
def B41(h:bm Wv):bm VF:=bQ<|h
def B47(h:bm A46):bm Wb:=bQ<|h
def B53(h:bm W6):bm YD:=bQ<|h
def B59(h:bm VV):bm Wg:=bQ<|h
def B65(h:bm A64):bm A65:=bQ<|h
def B71(h:bm WM):bm Y2:=bQ<|h
end
end Go.Abs
