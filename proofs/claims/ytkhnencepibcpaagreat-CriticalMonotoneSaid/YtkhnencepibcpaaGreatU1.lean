/- Runs of calls. -/
import Derived.Test.YtkhnencepibcpaaGreatT
set_option linter.all false
namespace Go.Abs
noncomputable section
open Go Go.Proofs
def B2(h:bm A1):bm A2:=bQ<|bQ<|bQ<|bQ<|bQ<|bQ<|bQ<|bQ<|bQ<|bQ<|h
def B8(h:bm A7):bm A8:=bQ<|h
def B14(h:bm A13):bm Xa:=bQ<|h
def B20(h:bm A19):bm A20:=bQ<|h
def B26(h:bm Vt):bm VD:=bQ<|h
def B32(h:bm ZP):bm A32:=bQ<|h
def B38(h:bm A37):bm XW:=bQ<|h
def B44(h:bm YE):bm A44:=bQ<|h
def B50(h:bm A49):bm ZU:=bQ<|h
def B56(h:bm A55):bm Yr:=bQ<|h
def B62(h:bm Zs):bm A62:=bQ<|h
def B68(h:bm YC):bm Wn:=bQ<|h
end
end Go.Abs
