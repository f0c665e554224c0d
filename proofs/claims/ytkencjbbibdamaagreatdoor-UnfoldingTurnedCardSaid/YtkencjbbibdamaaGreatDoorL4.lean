/- Contracts by runs, part 4. -/
import Derived.Test.YtkencjbbibdamaaGreatDoorH
set_option linter.all false
set_option maxRecDepth 100000
namespace Go.Abs
noncomputable section
open Go Go.Proofs
def kp5:kp false 5 121 ct5=true:=by kernel_rfl
def atf:kp false 9 31 ct9=true:=by kernel_rfl
def ajq:kp false 13 126 acu=true:=by kernel_rfl
def aox:kp false 17 125 Zr=true:=by kernel_rfl
def ajz:kp false 21 71 abh=true:=by kernel_rfl
def aAe:kp false 25 118 acq=true:=by kernel_rfl
def axc:kp false 29 271 afk=true:=by kernel_rfl
def auQ:kp false 33 224 agV=true:=by kernel_rfl
def al4:kp false 37 273 ahk=true:=by kernel_rfl
def aue:kp false 41 38 aaa=true:=by kernel_rfl
def azt:kp false 45 122 aaO=true:=by kernel_rfl
def aoE:kp false 49 37 Zw=true:=by kernel_rfl
def axK:kp false 54 235 ahz=true:=by kernel_rfl
def akB:kp false 58 181 XI=true:=by kernel_rfl
def axz:kp true 63 130 ZH=true:=by kernel_rfl
def avw:kp false 67 208 aaM=true:=by kernel_rfl
def alE:kp false 72 318 aik=true:=by kernel_rfl
def arw:kp false 77 213 aem=true:=by kernel_rfl
def alZ:kp false 81 217 ahd=true:=by kernel_rfl
def azl:kp false 85 154 X5=true:=by kernel_rfl
def awr:kp false 89 100 Xs=true:=by kernel_rfl
def asl:kp false 93 185 adb=true:=by kernel_rfl
def aiY:kp false 97 48 abM=true:=by kernel_rfl
end
end Go.Abs
