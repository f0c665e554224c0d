/- Contracts by runs, part 1. -/
import Derived.Test.YtcmaalfaddllgaaGreatDoorH
set_option linter.all false
set_option maxRecDepth 100000
namespace Go.Abs
noncomputable section
open Go Go.Proofs
def kp1:kp false 1 194 WU=true:=by kernel_rfl
def kp6:kp false 6 53 Yb=true:=by kernel_rfl
def auf:kp false 10 8 Ew=true:=by kernel_rfl
def am3:kp false 14 195 afh=true:=by kernel_rfl
def ar7:kp false 18 52 X9=true:=by kernel_rfl
def azx:kp false 22 56 afE=true:=by kernel_rfl
def am2:kp false 26 51 aam=true:=by kernel_rfl
def aoG:kp false 30 201 acW=true:=by kernel_rfl
def auX:kp false 34 55 ah4=true:=by kernel_rfl
def arC:kp false 38 202 ahF=true:=by kernel_rfl
def an2:kp false 42 140 ahc=true:=by kernel_rfl
def aqr:kp false 46 98 aaQ=true:=by kernel_rfl
def ayU:kp false 50 12 PY=true:=by kernel_rfl
def aqW:kp true 55 208 agx=true:=by kernel_rfl
def awZ:kp false 59 117 aat=true:=by kernel_rfl
def anC:kp false 64 65 afx=true:=by kernel_rfl
def axn:kp false 69 340 ac5=true:=by kernel_rfl
def anm:kp false 73 235 ahW=true:=by kernel_rfl
def as7:kp false 78 239 Zt=true:=by kernel_rfl
def ao2:kp false 82 133 Y2=true:=by kernel_rfl
def ax0:kp false 86 130 Wf=true:=by kernel_rfl
def asF:kp false 90 89 afu=true:=by kernel_rfl
def auc:kp false 94 31 JR=true:=by kernel_rfl
def anj:kp false 98 20 Rg=true:=by kernel_rfl
end
end Go.Abs
