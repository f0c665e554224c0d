/- Runs of calls. -/
import Derived.Test.YtkhnencepibcpaaGreatT
set_option linter.all false
namespace Go.Abs
noncomputable section
open Go Go.Proofs
def B1(h:bm A0):bm A1:=bQ<|bQ<|bQ<|bQ<|bQ<|bQ<|bQ<|bQ<|bQ<|bQ<|bQ<|bQ<|bQ<|bQ<|bQ<|bQ<|bQ<|bQ<|bQ<|bQ<|bQ<|bQ<|bQ<|bQ<|bQ<|bQ<|bQ<|bQ<|bQ<|bQ<|h
def B7(h:bm A6):bm A7:=bQ<|h
def B13(h:bm Zf):bm A13:=bQ<|h
def B19(h:bm W4):bm A19:=bQ<|h
def B25(h:bm A24):bm Vt:=bQ<|h
def B31(h:bm A30):bm ZP:=bQ<|h
def B37(h:bm A36):bm A37:=bQ<|h
def B43(h:bm A42):bm YE:=bQ<|h
def B49(h:bm Wz):bm A49:=bQ<|h
def B55(h:bm Yy):bm A55:=bQ<|h
def B61(h:bm Vu):bm Zs:=bQ<|h
def B67(h:bm Zw):bm YC:=bQ<|h
end
end Go.Abs
