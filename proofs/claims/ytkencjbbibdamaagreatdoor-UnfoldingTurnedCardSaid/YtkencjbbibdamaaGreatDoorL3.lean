/- Contracts by runs, part 3. -/
import Derived.Test.YtkencjbbibdamaaGreatDoorH
set_option linter.all false
set_option maxRecDepth 100000
namespace Go.Abs
noncomputable section
open Go Go.Proofs
def kp4:kp false 4 120 ct4=true:=by kernel_rfl
def kp8:kp false 8 32 ct8=true:=by kernel_rfl
def azs:kp false 12 39 FJ=true:=by kernel_rfl
def avn:kp false 16 175 afD=true:=by kernel_rfl
def aqY:kp false 20 168 Xk=true:=by kernel_rfl
def arI:kp false 24 35 agj=true:=by kernel_rfl
def ai2:kp false 28 12 acO=true:=by kernel_rfl
def ayQ:kp false 32 173 Zs=true:=by kernel_rfl
def alg:kp false 36 72 afO=true:=by kernel_rfl
def avo:kp false 40 170 abS=true:=by kernel_rfl
def aqv:kp false 44 169 aeC=true:=by kernel_rfl
def az8:kp false 48 68 ad1=true:=by kernel_rfl
def awx:kp false 53 278 WO=true:=by kernel_rfl
def ayj:kp false 57 180 YP=true:=by kernel_rfl
def ant:kp true 62 130 agM=true:=by kernel_rfl
def asC:kp false 66 148 aah=true:=by kernel_rfl
def aw7:kp false 71 364 ae3=true:=by kernel_rfl
def asI:kp false 75 139 Ye=true:=by kernel_rfl
def amQ:kp false 80 216 aao=true:=by kernel_rfl
def aj7:kp false 84 149 aas=true:=by kernel_rfl
def aoe:kp false 88 151 afj=true:=by kernel_rfl
def arF:kp false 92 182 Y8=true:=by kernel_rfl
def az4:kp false 96 94 Y7=true:=by kernel_rfl
end
end Go.Abs
