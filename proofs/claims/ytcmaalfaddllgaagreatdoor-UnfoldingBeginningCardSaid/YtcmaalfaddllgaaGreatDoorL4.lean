/- Contracts by runs, part 4. -/
import Derived.Test.YtcmaalfaddllgaaGreatDoorH
set_option linter.all false
set_option maxRecDepth 100000
namespace Go.Abs
noncomputable section
open Go Go.Proofs
def kp5:kp false 5 96 Wl=true:=by kernel_rfl
def kp9:kp false 9 22 aaK=true:=by kernel_rfl
def ajq:kp false 13 101 acu=true:=by kernel_rfl
def aox:kp false 17 100 Zr=true:=by kernel_rfl
def ajz:kp false 21 57 abh=true:=by kernel_rfl
def aAe:kp false 25 93 acq=true:=by kernel_rfl
def axc:kp false 29 245 afk=true:=by kernel_rfl
def auQ:kp false 33 198 agV=true:=by kernel_rfl
def al4:kp false 37 247 ahk=true:=by kernel_rfl
def aue:kp false 41 29 aaa=true:=by kernel_rfl
def azt:kp false 45 97 aaO=true:=by kernel_rfl
def aoE:kp false 49 28 Zw=true:=by kernel_rfl
def axK:kp false 54 209 ahz=true:=by kernel_rfl
def akB:kp false 58 156 XI=true:=by kernel_rfl
def axz:kp true 63 105 ZH=true:=by kernel_rfl
def avw:kp false 67 183 aaM=true:=by kernel_rfl
def alE:kp false 72 292 aik=true:=by kernel_rfl
def arw:kp false 77 188 aem=true:=by kernel_rfl
def alZ:kp false 81 192 ahd=true:=by kernel_rfl
def azl:kp false 85 134 X5=true:=by kernel_rfl
def awr:kp false 89 90 Xs=true:=by kernel_rfl
def asl:kp false 93 160 adb=true:=by kernel_rfl
def aiY:kp false 97 40 abM=true:=by kernel_rfl
end
end Go.Abs
