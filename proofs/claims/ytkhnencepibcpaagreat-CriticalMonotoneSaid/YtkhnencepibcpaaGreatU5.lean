/- Runs of calls. -/
import Derived.Test.YtkhnencepibcpaaGreatT
import Derived.Test.YtkhnencepibcpaaGreatU0
import Derived.Test.YtkhnencepibcpaaGreatU1
import Derived.Test.YtkhnencepibcpaaGreatU2
import Derived.Test.YtkhnencepibcpaaGreatU3
import Derived.Test.YtkhnencepibcpaaGreatU4
set_option linter.all false
namespace Go.Abs
noncomputable section
open Go Go.Proofs
def B6(h:bm A5):bm A6:=bQ<|h
def B12(h:bm Xm):bm Zf:=bQ<|h
def B18(h:bm Xb):bm W4:=bQ<|h
def B24(h:bm Yj):bm A24:=bQ<|h
def B30(h:bm ZC):bm A30:=bQ<|h
def B36(h:bm Xq):bm A36:=bQ<|h
def B42(h:bm VF):bm A42:=bQ<|h
def B48(h:bm Wb):bm Wz:=bQ<|h
def B54(h:bm YD):bm Yy:=bQ<|h
def B60(h:bm Wg):bm Vu:=bQ<|h
def B66(h:bm A65):bm Zw:=bQ<|h
def hE:aj:=⟨.nil,.nil,0⟩
def aIL:bm Y2:=B71<|B70<|B69<|B68<|B67<|B66<|B65<|B64<|B63<|B62<|B61<|B60<|B59<|B58<|B57<|B56<|B55<|B54<|B53<|B52<|B51<|B50<|B49<|B48<|B47<|B46<|B45<|B44<|B43<|B42<|B41<|B40<|B39<|B38<|B37<|B36<|B35<|B34<|B33<|B32<|B31<|B30<|B29<|B28<|B27<|B26<|B25<|B24<|B23<|B22<|B21<|B20<|B19<|B18<|B17<|B16<|B15<|B14<|B13<|B12<|B11<|B10<|B9<|B8<|B7<|B6<|B5<|B4<|B3<|B2<|B1<|ru0
def goE:QM (.bool true) (P1 Y2 5 [] hE)=true:=aH
end
end Go.Abs
