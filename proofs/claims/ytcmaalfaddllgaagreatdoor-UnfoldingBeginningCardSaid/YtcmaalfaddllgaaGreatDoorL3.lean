/- Contracts by runs, part 3. -/
import Derived.Test.YtcmaalfaddllgaaGreatDoorH
set_option linter.all false
set_option maxRecDepth 100000
namespace Go.Abs
noncomputable section
open Go Go.Proofs
def kp4:kp false 4 95 Nm=true:=by kernel_rfl
def kp8:kp false 8 23 ct8=true:=by kernel_rfl
def azs:kp false 12 30 FJ=true:=by kernel_rfl
def avn:kp false 16 149 afD=true:=by kernel_rfl
def aqY:kp false 20 142 Xk=true:=by kernel_rfl
def arI:kp false 24 26 agj=true:=by kernel_rfl
def ai2:kp false 28 10 acO=true:=by kernel_rfl
def ayQ:kp false 32 147 Zs=true:=by kernel_rfl
def alg:kp false 36 58 afO=true:=by kernel_rfl
def avo:kp false 40 144 abS=true:=by kernel_rfl
def aqv:kp false 44 143 aeC=true:=by kernel_rfl
def az8:kp false 48 54 ad1=true:=by kernel_rfl
def awx:kp false 53 252 WO=true:=by kernel_rfl
def ayj:kp false 57 155 YP=true:=by kernel_rfl
def ant:kp true 62 105 agM=true:=by kernel_rfl
def asC:kp false 66 128 aah=true:=by kernel_rfl
def aw7:kp false 71 341 ae3=true:=by kernel_rfl
def asI:kp false 75 119 Ye=true:=by kernel_rfl
def amQ:kp false 80 191 aao=true:=by kernel_rfl
def aj7:kp false 84 129 aas=true:=by kernel_rfl
def aoe:kp false 88 131 afj=true:=by kernel_rfl
def arF:kp false 92 157 Y8=true:=by kernel_rfl
def az4:kp false 96 84 Y7=true:=by kernel_rfl
end
end Go.Abs
