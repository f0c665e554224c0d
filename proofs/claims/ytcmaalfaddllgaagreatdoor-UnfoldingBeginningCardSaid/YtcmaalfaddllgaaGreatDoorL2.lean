/- Contracts by runs, part 2. -/
import Derived.Test.YtcmaalfaddllgaaGreatDoorH
set_option linter.all false
set_option maxRecDepth 100000
namespace Go.Abs
noncomputable section
open Go Go.Proofs
def kp2:kp false 2 137 ct2=true:=by kernel_rfl
def kp7:kp false 7 48 abq=true:=by kernel_rfl
def ajU:kp false 11 50 Y1=true:=by kernel_rfl
def aki:kp false 15 204 adr=true:=by kernel_rfl
def awq:kp false 19 27 Zh=true:=by kernel_rfl
def anD:kp false 23 94 ahs=true:=by kernel_rfl
def awL:kp false 27 25 L3=true:=by kernel_rfl
def aqH:kp false 31 146 acK=true:=by kernel_rfl
def ap0:kp false 35 139 acG=true:=by kernel_rfl
def ay1:kp false 39 145 Y0=true:=by kernel_rfl
def akm:kp false 43 141 ad4=true:=by kernel_rfl
def asj:kp false 47 99 WJ=true:=by kernel_rfl
def aAI:kp false 51 13 UK=true:=by kernel_rfl
def amf:kp false 56 208 adW=true:=by kernel_rfl
def ayC:kp false 61 106 agw=true:=by kernel_rfl
def amJ:kp false 65 67 acD=true:=by kernel_rfl
def av4:kp false 70 236 aeM=true:=by kernel_rfl
def aod:kp false 74 187 aeJ=true:=by kernel_rfl
def apc:kp false 79 238 Yy=true:=by kernel_rfl
def apf:kp false 83 185 Yp=true:=by kernel_rfl
def aze:kp false 87 132 Zu=true:=by kernel_rfl
def apJ:kp false 91 41 XY=true:=by kernel_rfl
def azA:kp false 95 118 aco=true:=by kernel_rfl
def ar1:kp false 99 11 Ko=true:=by kernel_rfl
end
end Go.Abs
