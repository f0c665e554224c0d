/- Contracts by runs, part 1. -/
import Derived.Test.YtkencjbbibdamaaGreatDoorH
set_option linter.all false
set_option maxRecDepth 100000
namespace Go.Abs
noncomputable section
open Go Go.Proofs
def kp1:kp false 1 220 ct1=true:=by kernel_rfl
def kp6:kp false 6 67 YF=true:=by kernel_rfl
def auf:kp false 10 10 Ew=true:=by kernel_rfl
def am3:kp false 14 221 afh=true:=by kernel_rfl
def ar7:kp false 18 66 X9=true:=by kernel_rfl
def azx:kp false 22 70 afE=true:=by kernel_rfl
def am2:kp false 26 65 aam=true:=by kernel_rfl
def aoG:kp false 30 227 acW=true:=by kernel_rfl
def auX:kp false 34 69 ah4=true:=by kernel_rfl
def arC:kp false 38 228 ahF=true:=by kernel_rfl
def an2:kp false 42 166 ahc=true:=by kernel_rfl
def aqr:kp false 46 123 aaQ=true:=by kernel_rfl
def ayU:kp false 50 14 PY=true:=by kernel_rfl
def aqW:kp true 55 234 agx=true:=by kernel_rfl
def awZ:kp false 59 137 aat=true:=by kernel_rfl
def anC:kp false 64 79 afx=true:=by kernel_rfl
def axn:kp false 69 363 ac5=true:=by kernel_rfl
def anm:kp false 73 261 ahW=true:=by kernel_rfl
def as7:kp false 78 265 Zt=true:=by kernel_rfl
def ao2:kp false 82 153 Y2=true:=by kernel_rfl
def ax0:kp false 86 150 Wf=true:=by kernel_rfl
def asF:kp false 90 99 afu=true:=by kernel_rfl
def auc:kp false 94 40 JR=true:=by kernel_rfl
def anj:kp false 98 22 Rg=true:=by kernel_rfl
end
end Go.Abs
