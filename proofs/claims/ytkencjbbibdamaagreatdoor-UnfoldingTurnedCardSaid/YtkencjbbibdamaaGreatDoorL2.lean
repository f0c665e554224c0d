/- Contracts by runs, part 2. -/
import Derived.Test.YtkencjbbibdamaaGreatDoorH
set_option linter.all false
set_option maxRecDepth 100000
namespace Go.Abs
noncomputable section
open Go Go.Proofs
def kp2:kp false 2 163 ct2=true:=by kernel_rfl
def kp7:kp false 7 62 ct7=true:=by kernel_rfl
def ajU:kp false 11 64 Y1=true:=by kernel_rfl
def aki:kp false 15 230 adr=true:=by kernel_rfl
def awq:kp false 19 36 Zh=true:=by kernel_rfl
def anD:kp false 23 119 ahs=true:=by kernel_rfl
def awL:kp false 27 34 L3=true:=by kernel_rfl
def aqH:kp false 31 172 acK=true:=by kernel_rfl
def ap0:kp false 35 165 acG=true:=by kernel_rfl
def ay1:kp false 39 171 Y0=true:=by kernel_rfl
def akm:kp false 43 167 ad4=true:=by kernel_rfl
def asj:kp false 47 124 WJ=true:=by kernel_rfl
def aAI:kp false 51 15 UK=true:=by kernel_rfl
def amf:kp false 56 234 adW=true:=by kernel_rfl
def ayC:kp false 61 131 agw=true:=by kernel_rfl
def amJ:kp false 65 81 acD=true:=by kernel_rfl
def av4:kp false 70 262 aeM=true:=by kernel_rfl
def aod:kp false 74 212 aeJ=true:=by kernel_rfl
def apc:kp false 79 264 Yy=true:=by kernel_rfl
def apf:kp false 83 210 Yp=true:=by kernel_rfl
def aze:kp false 87 152 Zu=true:=by kernel_rfl
def apJ:kp false 91 49 XY=true:=by kernel_rfl
def azA:kp false 95 138 aco=true:=by kernel_rfl
def ar1:kp false 99 13 Ko=true:=by kernel_rfl
end
end Go.Abs
