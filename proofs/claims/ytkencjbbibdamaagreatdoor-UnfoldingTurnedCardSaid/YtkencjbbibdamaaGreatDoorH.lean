/- Contracts; walks of the functions of the net. -/
import Derived.Test.YtkencjbbibdamaaGreatDoorD
import Derived.Test.YtkencjbbibdamaaGreatDoorE
import Derived.Test.YtkencjbbibdamaaGreatDoorF
import Derived.Test.YtkencjbbibdamaaGreatDoorG
import Derived.KernelRfl
set_option linter.all false
set_option maxRecDepth 100000
namespace Go.Abs
noncomputable section
open Go
variable{H' K:ah}{I:Im}{N:aT}{P:Program}{S:List bI}{T:Tr aa}{Z:cR}{a b fm:Option Nat}{bef:List (List Nat)}{cap:List ae}{count e j:Int}{cs xs:List aa}{d i k m n o off p p2 q q2 sz:Nat}{es:List (Nat×fq)}{g:Nat->Option Row}{l:List Int}{pl:List (Nat×Nat)}{s:aa}{src:List Tmp}{t:TypeId}{v:ae}{y:bu}
abbrev qI(n:Nat):XV:=.int .i64 n 0
abbrev qS(n:Nat):XV:=.sl n none
abbrev qX:XV:=.sx [] none
abbrev qz(n:Nat):cq:=.le 0 n 0
abbrev ql(a b:Nat):cq:=.le a b 0
abbrev qu(a:Nat)(c:Int):cq:=.le a 0 c
def qV(i:Nat)(r:Cf)(t:Nat):Nat×Inv:=(i,⟨1,[r],[(t,qI 1)],[],[],[[qz 1,ql 1 2]],((2,0),(1,0))⟩)
def qR(a:Nat):XV:=.agg [.sc (.str [114]),qS a,qS (a+1),qX,qI 0,qX,qS (a+2),qS (a+3),qX,qI 0,qX,qS (a+4),qS (a+5),qS (a+6),qS (a+7),.sc (.bool true),.int .i64 0 1,qX,qX,qX,qX,qX,qX,qI 0,qX]
def Au:List cq:=[.sl 1 11 0 4 [],.sl 2 12 0 5 [(11,0)],.le 0 11 (-1),qu 11 6,qz 12,qu 12 5,.sl 3 13 0 0 [(0,0),(11,(-1))],.sl 4 14 0 6 [(12,(-1)),(0,0),(13,(-1))],qz 13,qu 13 40,qz 14,qu 14 40,.sl 5 15 0 0 [(0,0),(11,(-1))],.sl 6 16 0 6 [(12,(-1)),(0,0),(15,(-1))],qz 15,qu 15 40,qz 16,qu 16 40,.sl 7 17 0 0 [(0,0),(13,(-1))],.sl 8 18 0 0 [(0,0),(14,(-1))],.sl 9 19 0 0 [(0,0),(15,(-1))],.sl 10 20 0 0 [(0,0),(16,(-1))],qz 17,qu 17 40,qz 18,qu 18 40,qz 19,qu 19 40,qz 20,qu 20 40]
def AS:List cq:=[.sl 1 9 0 0 [(0,0),(0,99)],.sl 2 10 0 6 [(0,99),(0,0),(9,(-1))],qz 9,qu 9 40,qz 10,qu 10 40,.sl 3 11 0 0 [(0,0),(0,99)],.sl 4 12 0 6 [(0,99),(0,0),(11,(-1))],qz 11,qu 11 40,qz 12,qu 12 40,.sl 5 13 0 0 [(0,0),(9,(-1))],.sl 6 14 0 0 [(0,0),(10,(-1))],.sl 7 15 0 0 [(0,0),(11,(-1))],.sl 8 16 0 0 [(0,0),(12,(-1))],qz 13,qu 13 40,qz 14,qu 14 40,qz 15,qu 15 40,qz 16,qu 16 40]
def J8:List cq:=[.sl 1 7 0 0 [(0,(-1)),(0,1000)],.sl 2 8 0 10 [(0,(-1)),(0,1000)],.sl 3 9 0 0 [(0,(-1)),(0,1000)],.sl 4 10 0 10 [(0,(-1)),(0,1000)],qz 7,qu 7 1000,qz 8,qu 8 1000,qz 9,qu 9 1000,qz 10,qu 10 1000,.sl 5 11 0 0 [(0,(-1)),(0,1000)],.sl 6 12 0 0 [(0,(-1)),(0,1000)],qz 11,qu 11 1000,qz 12,qu 12 1000]
def Cr:List cq:=[.sl 1 5 0 4 [],.sl 2 6 0 5 [(5,0)],.le 0 5 (-1),qu 5 6,qz 6,qu 6 5,.sl 3 7 0 0 [(0,0),(5,(-1))],.sl 4 8 0 6 [(6,(-1)),(0,0),(7,(-1))],qz 7,qu 7 40,qz 8,qu 8 40]
def GD:List cq:=[.sl 1 5 0 0 [(0,0),(0,99)],.sl 2 6 0 6 [(0,99),(0,0),(5,(-1))],qz 5,qu 5 40,qz 6,qu 6 80,.sl 3 7 0 0 [(0,0),(5,(-1))],.sl 4 8 0 0 [(0,0),(6,(-1))],qz 7,qu 7 1000,qz 8,qu 8 1000]
def vX:List XV:=[.int .i64 0 1,qX,qX,qX,qX,qX,qX,qI 0,qX]
def zK:List cq:=[.sl 1 3 0 0 [(0,(-1)),(0,1000)],qz 3,qu 3 1000,.le 0 2 1,qu 2 1000]
def qc7:List cq:=[.sl 1 7 0 4 [],.sl 2 8 0 5 [(7,0)],.le 0 7 (-1),qu 7 6,qz 8,qu 8 5,.sl 3 9 0 0 [(0,0),(7,(-1))],.sl 4 10 0 6 [(8,(-1)),(0,0),(9,(-1))],qz 9,qu 9 40,qz 10,qu 10 40,.sl 5 11 0 0 [(0,0),(9,(-1))],.sl 6 12 0 0 [(0,0),(10,(-1))],qz 11,qu 11 1000,qz 12,qu 12 1000]
def Ub:List cq:=[.sl 1 4 0 4 [],.sl 2 5 0 5 [(4,0)],.le 0 4 (-1),qu 4 6,qz 5,qu 5 5,.sl 3 6 0 12 [(4,0),(5,0)],qz 6,qu 6 3]
def Qy:List cq:=[.sl 1 3 0 0 [(0,(-1)),(0,1000)],.sl 2 4 0 10 [(0,(-1)),(0,1000)],qz 3,qu 3 1000,qz 4,qu 4 1000]
def V8:List cq:=[.sl 1 5 0 4 [],.sl 2 6 0 5 [(5,0)],.le 0 5 (-1),qu 5 6,qz 6,qu 6 5,.sl 3 7 0 0 [(0,0),(5,(-1))],.sl 4 8 0 6 [(6,(-1)),(0,0),(7,(-1))],qz 7,qu 7 100,qz 8,qu 8 100]
def ach:List cq:=[.sl 1 5 0 4 [],.sl 2 6 0 5 [(5,0)],.le 0 5 (-1),qu 5 6,qz 6,qu 6 5,.sl 3 7 0 0 [(0,(-1)),(0,1000)],.sl 4 8 0 10 [(0,(-1)),(0,1000)],qz 7,qu 7 1000,qz 8,qu 8 1000]
def Jn:List XV:=[.agg [qS 1,qS 2],.agg [qS 3,qS 4],.agg [qS 5,qS 6]]
def VI:List cq:=[.sl 1 4 0 0 [(0,(-1)),(0,1000)],.sl 2 5 0 0 [(0,(-1)),(0,1000)],qz 4,qu 4 1000,qz 5,qu 5 1000,qz 3,qu 3 1000]
def Vd:List XV:=[.agg [qS 1,qS 2],.agg [qS 3,qS 4,qX,qI 0,qX],.agg vX]
def TX:List cq:=[.sl 1 3 0 0 [(0,0),(4,(-1))],qz 3,ql 3 2,ql 2 4]
def XC:List cq:=[.sl 17 19 0 0 [(0,0),(11,(-1))],.sl 18 20 0 0 [(0,0),(12,(-1))],qz 19,qu 19 40,qz 20,qu 20 40]
def aii:List cq:=[.sl 1 4 0 4 [],.sl 2 5 0 5 [(4,0)],.le 0 4 (-1),qu 4 6,qz 5,qu 5 5,.le 0 3 1,qu 3 1000]
def ZY:List cq:=[.sl 1 4 0 4 [],.sl 2 5 0 5 [(4,0)],.le 0 4 (-1),qu 4 6,qz 5,qu 5 5,qz 3,.le 3 5 (-1)]
def Xr:List cq:=[.sl 1 4 0 4 [],.sl 2 5 0 5 [(4,0)],.le 0 4 (-1),qu 4 6,qz 5,qu 5 5,qz 3,.le 3 4 (-1)]
def Zv:List cq:=[.sl 1 4 0 4 [],.sl 2 5 0 5 [(4,0)],.le 0 4 (-1),qu 4 6,qz 5,qu 5 5,.le 0 3 1,qu 3 99]
def agd:List cq:=[.sl 2 5 0 0 [(0,0),(0,99)],.sl 3 1 0 10 [(0,(-1)),(0,1000)],qz 1,ql 1 4]
def gX:List (List UInt8):=[[65],[66],[67],[68],[69],[70],[117],[118],[119],[120],[121],[122],[101],[102],[103],[104],[105],[111,102,102],[111,110],[114]]
def Rq:List vQ:=[
 ⟨5,2,[.int .i64 4 0],[.le 1 4 0,.le 4 2 0]⟩,
 ⟨3,0,[.int .u8 2 0],[.le 0 2 0,.le 2 0 255]⟩,
 ⟨3,0,[.ss 2],[.str 2 gX]⟩,
 ⟨7,0,[.ss 2,.int .i64 3 0,.int .i64 4 0,.sl 5 none],[.str 2 gX,.le 0 3 3,.le 3 0 0,.le 0 4 0,.le 4 0 20,.sl 5 6 0 2 [],.le 0 6 0,.le 6 0 2]⟩,
 ⟨7,0,[.ss 2,.int .i64 3 0,.bs 4,.sl 5 none],[.str 2 gX,.le 0 3 1,.le 3 1 (-1),.sl 5 6 0 3 [],.le 0 6 0,.le 6 0 1]⟩,
 ⟨10,1,[.ss 3,.int .i64 4 0,.int .i64 5 0,.int .i64 6 0,.int .i64 7 0,.int .i64 8 0,.int .i64 9 0],[.str 3 gX,.le 0 4 0,.le 4 1 (-1),.le 0 5 0,.le 5 1 (-1),.le 0 6 1,.le 6 0 40,.le 0 7 1,.le 7 0 40,.le 0 8 1,.le 8 0 40,.le 0 9 1,.le 9 0 40]⟩,
 ⟨8,3,[.int .i64 5 0,.int .i64 6 0,.int .i64 7 0],[.le 0 5 0,.le 5 1 0,.le 2 6 0,.le 6 3 0,.le 2 7 0,.le 7 3 0]⟩,
 ⟨5,0,[.int .u8 2 0,.int .u8 3 0,.int .u8 4 0],[.le 0 2 0,.le 2 0 255,.le 0 3 0,.le 3 0 255,.le 0 4 0,.le 4 0 255]⟩,
 ⟨4,0,[.int .u8 2 0,.int .u8 3 0],[.le 0 2 0,.le 2 0 255,.le 0 3 0,.le 3 0 255]⟩,
 ⟨8,3,[.int .i64 5 0,.int .i64 6 0,.int .i64 7 0],[.le 0 5 0,.le 5 1 0,.le 2 6 0,.le 6 3 0,.le 2 7 0,.le 7 3 0]⟩,
 ⟨7,2,[.int .i64 4 0,.int .i64 5 0,.int .i64 6 0],[.le 1 4 0,.le 4 2 0,.le 1 5 0,.le 5 2 0,.le 1 6 0,.le 6 2 0]⟩,
 ⟨3,0,[.int .i64 2 0],[.le 0 2 0,.le 2 0 100000]⟩,
 ⟨20,2,[.sc (.str [114]),.sl 4 none,.sl 5 none,.sx [] none,.int .i64 0 0,.sx [] none,.sl 6 none,.sl 7 none,.sx [] none,.int .i64 0 0,.sx [] none,.sl 8 none,.sl 9 none,.sl 10 none,.sl 11 none,.sc (.bool true),.int .i64 0 1,.sx [] none,.sx [] none,.sx [] none,.sx [] none,.sx [] none,.sx [] none,.int .i64 0 0,.sx [] none],[.sl 4 12 0 0 [(0,0),(1,(-1))],.sl 5 13 0 6 [(2,(-1)),(0,0),(12,(-1))],.le 0 12 0,.le 12 0 40,.le 0 13 0,.le 13 0 40,.sl 6 14 0 0 [(0,0),(1,(-1))],.sl 7 15 0 6 [(2,(-1)),(0,0),(14,(-1))],.le 0 14 0,.le 14 0 40,.le 0 15 0,.le 15 0 40,.sl 8 16 0 0 [(0,0),(12,(-1))],.sl 9 17 0 0 [(0,0),(13,(-1))],.sl 10 18 0 0 [(0,0),(14,(-1))],.sl 11 19 0 0 [(0,0),(15,(-1))],.le 0 12 0,.le 12 0 2,.le 0 13 0,.le 13 0 2,.le 0 14 0,.le 14 0 4,.le 0 15 0,.le 15 0 7,.le 0 16 0,.le 16 0 2,.le 0 17 0,.le 17 0 2,.le 0 18 0,.le 18 0 2,.le 0 19 0,.le 19 0 2]⟩]
def ct0:Ct:=⟨[3],[.ss 1],[.str 1 gX],none,[⟨1,.bs 2,[]⟩]⟩
def ct1:Ct:=⟨[1,0],[qS 1],[.sl 1 2 0 2 [],qz 2,qu 2 2],none,[⟨1,qI 3,[qz 3,qu 3 20]⟩]⟩
def ct2:Ct:=⟨[3,0,0,1,0],[.agg [.ss 1,qI 2,qI 3,qS 4]],[.str 1 gX,.le 0 2 3,ql 2 0,qz 3,qu 3 20,.sl 4 5 0 2 [],qz 5,qu 5 2],none,[⟨1,qI 6,[qz 6,qu 6 20]⟩]⟩
def vw:Ct:=⟨[1,1,0,0,0,3,0,2,0,1],[.agg [.sl 1 none,.sl 2 none],.int .i64 3 0],[.sl 1 4 0 4 [],.sl 2 5 0 5 [(4,0)],.le 0 4 (-1),.le 4 0 6,.le 0 5 0,.le 5 0 5,.le 0 3 0,.le 3 4 (-1),.le 3 0 5,.el 1 3 0 [.ss 6,.int .i64 7 0,.bs 8,.sl 10 none],.sl 10 9 0 3 [],.le 0 7 1,.le 7 3 (-1),.le 0 9 0,.le 9 0 1],none,[⟨2,.sl 11 (some 4),[.sl 11 12 0 3 [],.le 9 12 0,.le 12 0 6]⟩]⟩
def ct4:Ct:=⟨[1,1,0,0,0],[.agg [qS 1,qS 2],qI 3],Xr,none,[⟨1,qI 6,[qz 6,qu 6 20]⟩]⟩
def ct5:Ct:=⟨[1,1,0,0,0],[.agg [qS 1,qS 2],qI 3],ZY,none,[⟨1,qI 6,[qz 6,qu 6 20]⟩]⟩
def YF:Ct:=⟨[1,1,0,0],[.agg [qS 1,qS 2]],[.sl 1 3 0 4 [],.sl 2 4 0 5 [(3,0)],.le 0 3 (-1),qu 3 6,qz 4,qu 4 5],none,[⟨2,.aL [.ss 5,qI 6],[qz 6,qu 6 20]⟩]⟩
def ct7:Ct:=⟨[1,1,0,0,0,0],[.agg [qS 1,qS 2],qI 3,qI 4],[.sl 1 5 0 4 [],.sl 2 6 0 5 [(5,0)],.le 0 5 (-1),qu 5 6,qz 6,qu 6 5,.le 0 3 1,.le 3 5 (-1),qz 4,.le 4 5 (-1)],(some (3,(-1))),[⟨1,.bs 7,[]⟩]⟩
def ct8:Ct:=⟨[1,1,0,0,0,0,0],[.agg [qS 1,qS 2],qI 3,qI 4,qI 5],[.sl 1 6 0 4 [],.sl 2 7 0 5 [(6,0)],.le 0 6 (-1),qu 6 6,qz 7,qu 7 5,qz 3,qu 3 99,qz 4,qu 4 99,qz 5,qu 5 99],none,[⟨1,.bs 8,[]⟩]⟩
def ct9:Ct:=⟨[1,1,0,0,0],[.agg [qS 1,qS 2],qI 3],Zv,none,[⟨0,.sc (.bool true),[]⟩,⟨0,.sc (.bool false),[.le 3 4 (-2)]⟩]⟩
def Ew:Ct:=⟨[1,1,1,1,0,0,0,0,0],[.agg [.sl 1 none,.sl 2 none],.sl 3 none,.sl 4 none,.int .i64 5 0],[.sl 1 6 0 4 [],.sl 2 7 0 5 [(6,0)],.le 0 6 (-1),.le 6 0 6,.le 0 7 0,.le 7 0 5,.sl 3 8 0 1 [],.sl 4 9 0 7 [],.le 0 8 0,.le 8 0 1000,.le 0 9 0,.le 9 0 1000,.le 0 5 0,.le 5 0 4],none,[⟨4,.agg [.sl 10 none,.sl 11 none],[.sl 10 12 0 0 [(0,0),(6,(-1))],.sl 11 13 0 6 [(7,(-1)),(0,0),(12,(-1))],.le 0 12 0,.le 12 5 0,.le 12 0 4,.le 0 13 0,.le 13 0 8,.le 13 9 0]⟩]⟩
def Y1:Ct:=⟨[1,1,0,0],[.agg [qS 1,qS 2]],Qy,none,[⟨0,qI 0,[.sl 1 3 0 0 [(0,0),(0,99)],.sl 2 4 0 6 [(0,99),(0,0),(3,(-1))],qu 3 40,qu 4 80]⟩,⟨1,qI 5,[.le 0 5 (-1),qu 5 20]⟩]⟩
def FJ:Ct:=⟨[1,1,0,0],[.agg [.sl 1 none,.sl 2 none]],[.sl 1 3 0 0 [(0,(-1)),(0,1000)],.sl 2 4 0 10 [(0,(-1)),(0,1000)],.le 0 3 0,.le 3 0 1000,.le 0 4 0,.le 4 0 1000],none,[⟨0,.int .i64 0 0,[.sl 1 3 0 0 [(0,0),(0,99)],.sl 2 4 0 6 [(0,99),(0,0),(3,(-1))],.le 3 0 40,.le 4 0 80]⟩,⟨1,.int .i64 5 0,[.le 0 5 (-1),.le 5 0 20]⟩]⟩
def acu:Ct:=⟨[1,1,0,0],[.agg [qS 1,qS 2]],Qy,none,[⟨1,.bs 5,[]⟩]⟩
def afh:Ct:=⟨[1,1,1,1,0,0,0,0],[.agg [qS 1,qS 2],.agg [qS 3,qS 4]],ach,none,[⟨1,.bs 9,[]⟩]⟩
def adr:Ct:=⟨[1,1,0,0,0],[.agg [qS 1,qS 2],qI 3],Zv,none,[⟨1,.bs 6,[]⟩]⟩
def afD:Ct:=⟨[1,1,1,1,0,0,0,0],[.agg [qS 1,qS 2],.agg [qS 3,qS 4]],V8,none,[⟨1,.bs 9,[]⟩]⟩
def Zr:Ct:=⟨[1,1,1,1,0,0,0,0],[.agg [qS 1,qS 2],.agg [qS 3,qS 4]],V8,none,[⟨1,.bs 9,[]⟩]⟩
def X9:Ct:=⟨[0],[qI 1],[qz 1,qu 1 1000],none,[⟨1,qS 2,[.sl 2 1 0 0 [(0,0),(1,(-1))]]⟩]⟩
def Zh:Ct:=⟨[1,1,0,0],[.agg [qS 1,qS 2]],[.sl 1 3 0 0 [(0,0),(0,99)],.sl 2 4 0 6 [(0,99),(0,0),(3,(-1))],qz 3,qu 3 1000,qz 4,qu 4 1000],none,[⟨2,.agg [qS 5,qS 6],[.sl 5 3 0 0 [(0,0),(3,(-1))],.sl 6 4 0 0 [(0,0),(4,(-1))]]⟩]⟩
def Xk:Ct:=⟨[1,0],[qS 1],[.sl 1 2 0 0 [(0,(-1)),(0,1000)],qz 2,qu 2 1000],none,[⟨1,.bs 3,[]⟩]⟩
def abh:Ct:=⟨[1,1,0,0,0],[.agg [qS 1,qS 2],qI 3],VI,none,[⟨1,.bs 6,[]⟩]⟩
def afE:Ct:=⟨[1,1,0,0,0],[.agg [qS 1,qS 2],qI 3],VI,none,[⟨1,.bs 6,[]⟩]⟩
def ahs:Ct:=⟨[1,0,0],[qS 1,qI 2],zK,none,[⟨1,.bs 4,[]⟩]⟩
def agj:Ct:=⟨[1,0,0],[qS 1,qI 2],zK,none,[⟨1,qI 4,[.le 0 4 1,.le 4 3 (-1)]⟩]⟩
def acq:Ct:=⟨[1,0,0],[qS 1,qI 2],zK,none,[⟨1,qI 4,[qz 4,qu 4 20]⟩]⟩
def aam:Ct:=⟨[1,1,1,1,0,0,0,0],[.agg [qS 1,qS 2],.agg [qS 3,qS 4]],GD,none,[⟨1,qI 9,[qz 9,qu 9 20]⟩]⟩
def L3:Ct:=⟨[1,1,1,1,0,0,0,0],[.agg [.sl 1 none,.sl 2 none],.agg [.sl 3 none,.sl 4 none]],[.sl 1 5 0 0 [(0,0),(0,99)],.sl 2 6 0 6 [(0,99),(0,0),(5,(-1))],.le 0 5 0,.le 5 0 40,.le 0 6 0,.le 6 0 80,.sl 3 7 0 0 [(0,0),(5,(-1))],.sl 4 8 0 0 [(0,0),(6,(-1))],.le 0 7 0,.le 7 0 1000,.le 0 8 0,.le 8 0 1000],none,[⟨1,.int .i64 9 0,[.le 0 9 0,.le 9 0 20]⟩]⟩
def acO:Ct:=⟨[1,1,1,1,0,0,0,0],[.agg [qS 1,qS 2],.agg [qS 3,qS 4]],GD,none,[⟨9,.aL [.agg [qS 9,qS 10],.agg [qS 11,qS 12],qI 13],[.sl 9 14 0 0 [(0,0),(0,99)],.sl 10 15 0 10 [(0,(-1)),(0,1000)],qz 14,ql 14 7,qz 15,ql 15 8,.sl 11 16 0 0 [(0,(-1)),(0,1000)],.sl 12 17 0 0 [(0,(-1)),(0,1000)],qz 13,qu 13 20]⟩]⟩
def afk:Ct:=⟨[1,0,0],[qS 1,qI 2],zK,none,[⟨1,.bs 4,[]⟩]⟩
def acW:Ct:=⟨[0,1,0],[qI 1,qS 2],[.sl 2 3 0 0 [(0,(-1)),(0,1000)],qz 3,qu 3 1000,qz 1,qu 1 1000],none,[⟨2,qS 4,[.sl 4 5 0 0 [(0,0),(1,(-1))],qz 5,ql 5 1]⟩]⟩
def acK:Ct:=⟨[1,1,1,1,1,1,0,0,0,0,0,0],Jn,J8,none,[⟨1,qI 13,[qz 13,qu 13 20]⟩]⟩
def Zs:Ct:=⟨[1,1,1,1,1,1,0,0,0,0,0,0],Jn,J8,none,[⟨1,.bs 13,[]⟩]⟩
def agV:Ct:=⟨[],[qI 0,qX],[],none,[⟨1,qI 1,[qz 1,qu 1 20]⟩]⟩
def ah4:Ct:=⟨[1,1,0,0],[.agg [qS 1,qS 2,qX,qI 0,qX]],Qy,none,[⟨1,.bs 5,[]⟩]⟩
def acG:Ct:=⟨[1,1,1,1,0,0,0,0],[.agg [qS 1,qS 2],.agg [qS 3,qS 4,qX,qI 0,qX]],Cr,none,[⟨1,qI 9,[qz 9,qu 9 20]⟩]⟩
def afO:Ct:=⟨[],[.agg vX],[],none,[⟨1,.bs 1,[]⟩]⟩
def ahk:Ct:=⟨[],[.agg vX],[],none,[⟨0,.aL [.int .i64 0 1,qI 0],[]⟩]⟩
def ahF:Ct:=⟨[],[.agg vX],[],none,[⟨1,qI 1,[qz 1,qu 1 20]⟩]⟩
def Y0:Ct:=⟨[1,1,1,1,0,0,0,0],Vd,Cr,none,[⟨1,qI 9,[qz 9,qu 9 20]⟩]⟩
def abS:Ct:=⟨[1,1,1,1,1,1,0,0,0,0,0,0],[.agg [qS 1,qS 2],.agg [qS 3,qS 4],qS 5,qS 6],qc7,none,[⟨1,.bs 13,[]⟩]⟩
def aaa:Ct:=⟨[1,1,1,1,1,1,1,1,0,0,0,0,0,0,0,0],[qR 1],AS,none,[⟨1,.bs 17,[]⟩]⟩
def ahc:Ct:=⟨[1,1,1,1,1,1,1,1,1,1,0,0,0,0,0,0,0,0,0,0],[.agg [qS 1,qS 2],qR 3],Au,none,[⟨1,qI 21,[qz 21,qu 21 20]⟩]⟩
def ad4:Ct:=⟨[1,1,1,1,1,1,1,1,0,0,0,0,0,0,0,0],[qR 1],AS,none,[⟨1,qI 17,[qz 17,qu 17 20]⟩]⟩
def aeC:Ct:=⟨[1,1,1,1,1,1,1,1,0,0,0,0,0,0,0,0],[qR 1],AS,none,[⟨4,.aL [qS 17,qS 18],XC⟩]⟩
def aaO:Ct:=⟨[1,1,1,1,1,1,1,1,1,1,0,0,0,0,0,0,0,0,0,0],[.agg [qS 1,qS 2],qR 3],Au,none,[⟨1,qI 21,[qz 21,qu 21 20]⟩]⟩
def aaQ:Ct:=⟨[1,1,1,1,1,1,1,1,0,0,0,0,0,0,0,0],[qR 1],AS,none,[⟨1,qI 17,[qz 17,qu 17 20]⟩]⟩
def WJ:Ct:=⟨[],[.agg vX],[],none,[⟨0,.aL [qX,.sc (.bool true)],[]⟩]⟩
def ad1:Ct:=⟨[1,1,1,1,1,1,1,1,1,1,0,0,0,0,0,0,0,0,0,0],[.agg [qS 1,qS 2],qR 3],Au,none,[⟨1,qI 21,[qz 21,qu 21 20]⟩]⟩
def Zw:Ct:=⟨[1,1,1,0,0,0],[.agg [qS 1,qS 2],qS 3],Ub,none,[⟨1,qI 7,[qz 7,qu 7 20]⟩]⟩
def PY:Ct:=⟨[1,1,1,0,0,0],[.agg [.sl 1 none,.sl 2 none],.sl 3 none],[.sl 1 4 0 4 [],.sl 2 5 0 5 [(4,0)],.le 0 4 (-1),.le 4 0 6,.le 0 5 0,.le 5 0 5,.sl 3 6 0 12 [(4,0),(5,0)],.le 0 6 0,.le 6 0 3],none,[⟨1,.int .i64 7 0,[.le 0 7 0,.le 7 0 20]⟩]⟩
def UK:Ct:=⟨[1,1,1,0,0,0],[.agg [.sl 1 none,.sl 2 none],.sl 3 none],[.sl 1 4 0 4 [],.sl 2 5 0 5 [(4,0)],.le 0 4 (-1),.le 4 0 6,.le 0 5 0,.le 5 0 5,.sl 3 6 0 12 [(4,0),(5,0)],.le 0 6 0,.le 6 0 3],none,[⟨1,.bs 7,[]⟩]⟩
def YH:Ct:=⟨[3],[.ss 1],[.str 1 gX],none,[⟨1,.bs 2,[]⟩]⟩
def WO:Ct:=⟨[1,0],[qS 1],[.sl 1 2 0 2 [],qz 2,qu 2 2],none,[⟨1,qI 3,[qz 3,qu 3 20]⟩]⟩
def ahz:Ct:=⟨[3,0,0,1,1,0,0],[.agg [.ss 1,qI 2,qI 3,qS 4],qS 5],[.str 1 gX,.le 0 2 3,ql 2 0,qz 3,qu 3 20,.sl 4 6 0 2 [],qz 6,qu 6 2,.sl 5 7 0 3 [],qz 7,qu 7 6],none,[⟨1,qI 8,[qz 8,qu 8 20]⟩]⟩
def agx:Ct:=⟨[1,1,0,0,0],[.agg [qS 1,qS 2],qI 3],[.sl 1 4 0 4 [],.sl 2 5 0 5 [(4,0)],.le 0 4 (-1),qu 4 6,qz 5,qu 5 5,qz 3,.le 3 4 (-1),qu 3 5],(some (3,0)),[⟨2,.sl 6 (some 4),[.sl 6 7 0 3 [],qz 7,qu 7 6,.le 7 3 1]⟩]⟩
def adW:Ct:=⟨[1,1,0,0,0,3,0,2,0,1],[.agg [qS 1,qS 2],qI 3],[.sl 1 4 0 4 [],.sl 2 5 0 5 [(4,0)],.le 0 4 (-1),qu 4 6,qz 5,qu 5 5,qz 3,.le 3 4 (-1),qu 3 5,.el 1 3 0 [.ss 6,qI 7,.bs 8,qS 10],.sl 10 9 0 3 [],.le 0 7 1,.le 7 3 (-1),qz 9,qu 9 1],none,[⟨2,.sl 11 (some 4),[.sl 11 12 0 3 [],ql 9 12,qu 12 6]⟩]⟩
def YP:Ct:=⟨[1,1,0,0,0],[.agg [qS 1,qS 2],qI 3],Xr,none,[⟨1,qI 6,[qz 6,qu 6 20]⟩]⟩
def XI:Ct:=⟨[1,1,0,0,0],[.agg [qS 1,qS 2],qI 3],ZY,none,[⟨1,qI 6,[qz 6,qu 6 20]⟩]⟩
def aat:Ct:=⟨[1,1,0,0],[.agg [qS 1,qS 2]],[.sl 1 3 0 4 [],.sl 2 4 0 5 [(3,0)],.le 0 3 (-1),qu 3 6,qz 4,qu 4 5],none,[⟨2,.aL [.ss 5,qI 6],[qz 6,qu 6 20]⟩]⟩
def Am:Ct:=⟨[1,1,0,0,0],[.agg [.sl 1 none,.sl 2 none],.int .i64 3 0],[.sl 1 4 0 4 [],.sl 2 5 0 5 [(4,0)],.le 0 4 (-1),.le 4 0 6,.le 0 5 0,.le 5 0 5,.le 0 3 0,.le 3 4 (-1)],none,[⟨2,.sl 6 none,[.sl 6 7 0 0 [(0,0),(4,(-1))],.le 0 7 0,.le 7 0 6]⟩]⟩
def agw:Ct:=⟨[1,1,0,0,0,0],[.agg [qS 1,qS 2],qI 3,qI 4],[.sl 1 5 0 4 [],.sl 2 6 0 5 [(5,0)],.le 0 5 (-1),qu 5 6,qz 6,qu 6 5,qz 3,.le 3 5 (-1),qz 4,qu 4 99],none,[⟨1,.bs 7,[]⟩]⟩
def agM:Ct:=⟨[1,1,0,0,0],[.agg [qS 1,qS 2],.sx [[qI 3]] none],aii,none,[⟨0,qI 0,[qz 3,.le 3 4 (-1)]⟩,⟨1,qI 6,[.le 0 6 (-1),qu 6 20]⟩]⟩
def ZH:Ct:=⟨[1,1,0,0,0,0],[.agg [qS 1,qS 2],.sx [[qI 3],[qI 4]] none],[.sl 1 5 0 4 [],.sl 2 6 0 5 [(5,0)],.le 0 5 (-1),qu 5 6,qz 6,qu 6 5,.le 0 3 1,qu 3 1000,.le 0 4 1,qu 4 1000],none,[⟨0,qI 0,[qz 3,.le 3 5 (-1),qz 4,.le 4 5 (-1)]⟩,⟨1,qI 7,[.le 0 7 (-1),qu 7 20]⟩]⟩
def afx:Ct:=⟨[1,1,0,0,0],[.agg [qS 1,qS 2],qI 3],aii,none,[⟨3,.aL [qS 6,qI 7],[.sl 6 8 0 0 [(0,0),(4,(-1))],qz 8,qu 8 6,qz 7,qu 7 20]⟩]⟩
def acD:Ct:=⟨[1,1,0,0,0,0,0],[.agg [qS 1,qS 2],qI 3,qI 4,qI 5],[.sl 1 6 0 4 [],.sl 2 7 0 5 [(6,0)],.le 0 6 (-1),qu 6 6,qz 7,qu 7 5,.le 0 3 1,qu 3 99,.le 0 4 1,qu 4 99,.le 0 5 1,qu 5 99],none,[⟨1,.bs 8,[]⟩]⟩
def aah:Ct:=⟨[1,1,1,1,0,0,0,0],[.agg [qS 1,qS 2],.agg [qS 3,qS 4,qX,qI 0,qX]],Cr,none,[⟨1,qI 9,[qz 9,qu 9 20]⟩]⟩
def aaM:Ct:=⟨[],[qI 0,qX],[],none,[⟨1,qI 1,[qz 1,qu 1 20]⟩]⟩
def DU:Ct:=⟨[1,0],[.sl 1 none],[.sl 1 2 0 0 [(0,(-1)),(0,1000)],.le 0 2 0,.le 2 0 1000],none,[⟨1,.sl 3 (some 1),[.sl 3 2 0 0 [(0,(-1)),(0,1000)]]⟩]⟩
def ac5:Ct:=⟨[1,0,0],[qS 1,qI 2],zK,none,[⟨1,qI 4,[qz 4,qu 4 20]⟩]⟩
def aeM:Ct:=⟨[1,0,0],[qS 1,qI 2],zK,none,[⟨2,.aL [qI 4,.bs 5],[qz 4,ql 4 3]⟩]⟩
def ae3:Ct:=⟨[1,0,0],[qS 1,qI 2],zK,none,[⟨1,.bs 4,[]⟩]⟩
def aik:Ct:=⟨[1,1,1,1,0,0,0,0],[.agg [qS 1,qS 2],.agg [qS 3,qS 4]],GD,none,[⟨1,qI 9,[qz 9,qu 9 20]⟩]⟩
def ahW:Ct:=⟨[1,1,1,1,0,0,0,0],[.agg [qS 1,qS 2],.agg [qS 3,qS 4]],GD,none,[⟨1,qI 9,[qz 9,qu 9 20]⟩]⟩
def aeJ:Ct:=⟨[1,1,1,1,0,0,0,0],[.agg [qS 1,qS 2],.agg [qS 3,qS 4]],GD,none,[⟨9,.aL [.agg [qS 9,qS 10],.agg [qS 11,qS 12],qI 13],[.sl 9 14 0 0 [(0,0),(0,99)],.sl 10 15 0 10 [(0,(-1)),(0,1000)],qz 14,qu 14 1000,qz 15,qu 15 1000,.sl 11 16 0 0 [(0,(-1)),(0,1000)],.sl 12 17 0 0 [(0,(-1)),(0,1000)],qz 13,qu 13 20]⟩]⟩
def Ye:Ct:=⟨[1,1,1,1,1,1,0,0,0,0,0,0],Jn,J8,none,[⟨1,qI 13,[qz 13,qu 13 20]⟩]⟩
def DX:Ct:=⟨[1,0],[.sl 1 none],[.sl 1 2 0 0 [(0,(-1)),(0,1000)],.le 0 2 0,.le 2 0 1000],none,[⟨1,.int .i64 3 0,[.le 0 3 0,.le 3 0 1000]⟩]⟩
def aem:Ct:=⟨[1,1,1,1,1,1,0,0,0,0,0,0],Jn,J8,none,[⟨1,.bs 13,[]⟩]⟩
def Zt:Ct:=⟨[],[.agg vX],[],none,[⟨0,.aL [.int .i64 0 1,qI 0],[]⟩]⟩
def Yy:Ct:=⟨[],[.agg vX],[],none,[⟨1,.bs 1,[]⟩]⟩
def aao:Ct:=⟨[],[.agg vX],[],none,[⟨1,qI 1,[qz 1,qu 1 20]⟩]⟩
def ahd:Ct:=⟨[1,1,1,1,0,0,0,0],Vd,Cr,none,[⟨1,qI 9,[qz 9,qu 9 20]⟩]⟩
def Y2:Ct:=⟨[1,1,1,1,0,0,0,0],Vd,Cr,none,[⟨1,qI 9,[qz 9,qu 9 20]⟩]⟩
def Yp:Ct:=⟨[1,1,1,1,0,0,0,0],[.agg [qS 1,qS 2],.agg [qS 3,qS 4]],ach,none,[⟨1,.bs 9,[]⟩]⟩
def aas:Ct:=⟨[1,1,1,1,1,1,1,1,1,1,0,0,0,0,0,0,0,0,0,0],[.agg [qS 1,qS 2],qR 3],Au,none,[⟨1,qI 21,[qz 21,qu 21 20]⟩]⟩
def X5:Ct:=⟨[1,0,0],[qS 1,qI 2],[.sl 1 3 0 0 [(0,(-1)),(0,1000)],qz 3,qu 3 1000,qz 2,qu 2 1000],none,[⟨2,qS 4,[.sl 4 5 0 0 [(0,0),(2,(-1))],qz 5,ql 5 2]⟩]⟩
def Wf:Ct:=⟨[1,1,1,1,1,1,1,1,0,0,0,0,0,0,0,0],[qR 1],AS,none,[⟨1,qI 17,[qz 17,qu 17 20]⟩]⟩
def Zu:Ct:=⟨[1,1,1,1,1,1,0,0,0,0,0,0],[.agg [qS 1,qS 2],.agg [qS 3,qS 4],qS 5,qS 6],qc7,none,[⟨1,.bs 13,[]⟩]⟩
def afj:Ct:=⟨[1,1,1,1,1,1,1,1,0,0,0,0,0,0,0,0],[qR 1],AS,none,[⟨4,.aL [qS 17,qS 18],XC⟩]⟩
def Xs:Ct:=⟨[1,1,1,1,1,1,1,1,0,0,0,0,0,0,0,0],[qR 1],AS,none,[⟨4,.aL [qS 17,qS 18],[.sl 17 19 0 0 [(0,0),(9,(-1))],.sl 18 20 0 0 [(0,0),(10,(-1))],qz 19,qu 19 40,qz 20,qu 20 40]⟩]⟩
def afu:Ct:=⟨[1,1,1,1,1,1,1,1,1,1,0,0,0,0,0,0,0,0,0,0],[.agg [qS 1,qS 2],qR 3],Au,none,[⟨1,qI 21,[qz 21,qu 21 20]⟩]⟩
def XY:Ct:=⟨[1,1,1,1,1,1,1,1,1,1,0,0,0,0,0,0,0,0,0,0],[.agg [qS 1,qS 2],qR 3],Au,none,[⟨5,.aL [qS 21,qS 22,qI 23],[.sl 21 24 0 0 [(0,0),(0,1000)],.sl 22 25 0 0 [(0,0),(0,1000)],qz 24,qu 24 40,qz 25,qu 25 40,qz 23,qu 23 20]⟩]⟩
def Y8:Ct:=⟨[],[.agg vX],[],none,[⟨0,.aL [qX,.sc (.bool true)],[]⟩]⟩
def adb:Ct:=⟨[1,1,1,1,0,0,0,0],[.agg [qS 1,qS 2],.agg [qS 3,qS 4]],Cr,none,[⟨1,.bs 9,[]⟩]⟩
def JR:Ct:=⟨[1,1,1,1,0,0,0,0],[.agg [.sl 1 none,.sl 2 none],.agg [.sl 3 none,.sl 4 none]],[.sl 1 5 0 4 [],.sl 2 6 0 5 [(5,0)],.le 0 5 (-1),.le 5 0 6,.le 0 6 0,.le 6 0 5,.sl 3 7 0 0 [(0,0),(5,(-1))],.sl 4 8 0 6 [(6,(-1)),(0,0),(7,(-1))],.le 0 7 0,.le 7 0 40,.le 0 8 0,.le 8 0 40],none,[⟨1,.bs 9,[]⟩]⟩
def aco:Ct:=⟨[1,1,1,1,1,1,1,1,1,1,0,0,0,0,0,0,0,0,0,0],[.agg [qS 1,qS 2],qR 3],Au,none,[⟨1,qI 21,[qz 21,qu 21 20]⟩]⟩
def Y7:Ct:=⟨[1,1,1,0,0,0],[.agg [qS 1,qS 2],qS 3],Ub,none,[⟨1,qI 7,[qz 7,qu 7 20]⟩]⟩
def abM:Ct:=⟨[1,1,1,0,0,0],[.agg [qS 1,qS 2],qS 3,qX],Ub,none,[⟨1,.aL [qX,qI 7],[qz 7,qu 7 20]⟩]⟩
def Rg:Ct:=⟨[1,1,1,0,0,0],[.agg [.sl 1 none,.sl 2 none],.sl 3 none],[.sl 1 4 0 4 [],.sl 2 5 0 5 [(4,0)],.le 0 4 (-1),.le 4 0 6,.le 0 5 0,.le 5 0 5,.sl 3 6 0 12 [(4,0),(5,0)],.le 0 6 0,.le 6 0 3],none,[⟨1,.int .i64 7 0,[.le 0 7 0,.le 7 0 20]⟩]⟩
def Ko:Ct:=⟨[1,1,1,1,1,0,0,0,0,0],[.agg [.sl 1 none,.sl 2 none],.agg [.sl 3 none,.sl 4 none],.sl 5 none],[.sl 1 6 0 4 [],.sl 2 7 0 5 [(6,0)],.le 0 6 (-1),.le 6 0 6,.le 0 7 0,.le 7 0 5,.sl 3 8 0 0 [(0,0),(6,(-1))],.sl 4 9 0 6 [(7,(-1)),(0,0),(8,(-1))],.le 0 8 0,.le 8 0 2,.le 0 9 0,.le 9 0 2,.sl 5 10 0 1 [],.le 0 10 0,.le 10 0 3],none,[⟨6,.aL [.agg [.sl 11 none,.sl 12 none],.agg [.sl 13 none,.sl 14 none]],[.sl 11 15 0 0 [(0,0),(6,(-1))],.sl 12 16 0 6 [(7,(-1)),(0,0),(15,(-1))],.le 8 15 0,.le 15 0 4,.le 9 16 0,.le 16 0 7,.le 0 16 0,.sl 13 8 0 0 [(0,0),(8,(-1))],.sl 14 9 0 0 [(0,0),(9,(-1))]]⟩]⟩
def wq:List (Nat×Option Nat×Nat×Ct):=[(55,some 234,234,agx),(62,some 79,130,agM),(63,some 81,130,ZH),(0,none,161,ct0),(1,none,220,ct1),(2,none,163,ct2),(3,none,162,vw),(4,none,120,ct4),(5,none,121,ct5),(6,none,67,YF),(7,none,62,ct7),(8,none,32,ct8),(9,none,31,ct9),(10,none,10,Ew),(11,none,64,Y1),(12,none,39,FJ),(13,none,126,acu),(14,none,221,afh),(15,none,230,adr),(16,none,175,afD),(17,none,125,Zr),(18,none,66,X9),(19,none,36,Zh),(20,none,168,Xk),(21,none,71,abh),(22,none,70,afE),(23,none,119,ahs),(24,none,35,agj),(25,none,118,acq),(26,none,65,aam),(27,none,34,L3),(28,none,12,acO),(29,none,271,afk),(30,none,227,acW),(31,none,172,acK),(32,none,173,Zs),(33,none,224,agV),(34,none,69,ah4),(35,none,165,acG),(36,none,72,afO),(37,none,273,ahk),(38,none,228,ahF),(39,none,171,Y0),(40,none,170,abS),(41,none,38,aaa),(42,none,166,ahc),(43,none,167,ad4),(44,none,169,aeC),(45,none,122,aaO),(46,none,123,aaQ),(47,none,124,WJ),(48,none,68,ad1),(49,none,37,Zw),(50,none,14,PY),(51,none,15,UK),(52,none,147,YH),(53,none,278,WO),(54,none,235,ahz),(56,none,234,adW),(57,none,180,YP),(58,none,181,XI),(59,none,137,aat),(60,none,177,Am),(61,none,131,agw),(64,none,79,afx),(65,none,81,acD),(66,none,148,aah),(67,none,208,aaM),(68,none,82,DU),(69,none,363,ac5),(70,none,262,aeM),(71,none,364,ae3),(72,none,318,aik),(73,none,261,ahW),(74,none,212,aeJ),(75,none,139,Ye),(76,none,263,DX),(77,none,213,aem),(78,none,265,Zt),(79,none,264,Yy),(80,none,216,aao),(81,none,217,ahd),(82,none,153,Y2),(83,none,210,Yp),(84,none,149,aas),(85,none,154,X5),(86,none,150,Wf),(87,none,152,Zu),(88,none,151,afj),(89,none,100,Xs),(90,none,99,afu),(91,none,49,XY),(92,none,182,Y8),(93,none,185,adb),(94,none,40,JR),(95,none,138,aco),(96,none,94,Y7),(97,none,48,abM),(98,none,22,Rg),(99,none,13,Ko)]
def afN:List (Nat×List (Nat×Inv)):=[(3,[qV 0 (.t 65) 66,qV 1 (.t 77) 78]),(4,[qV 0 (.t 56) 57]),(9,[qV 0 (.l 0) 6,qV 1 (.l 1) 10]),(10,[(0,⟨3,[.bl 4 0],[(9,.sl 1 (some 1)),(10,qI 2)],[],[],[[.sl 1 3 0 0 [(0,0),(4,(-1))],qz 2,ql 2 4,qz 3,ql 3 2,.le 2 4 (-1)],[.sl 1 3 0 0 [(0,0),(4,(-1))],qz 2,ql 2 4,.le 0 3 (-1),ql 3 2]],((4,0),(2,0))⟩),(1,⟨3,[.bl 4 0,.l 1,.t 3],[(12,qI 1)],[(11,[.sl 2 (some 1),.sx [] (some 3)])],[],[[.sl 2 3 0 0 [(0,0),(4,(-1))],qz 3,ql 3 1,ql 1 5,ql 1 6]],((5,0),(1,0))⟩),(2,⟨4,[.bl 4 0,.bl 4 1,.l 2,.bl 11 0],[(13,qI 1)],[(11,[.sl 2 (some 1),.sl 3 (some 3)])],[],[[.sl 2 8 0 0 [(0,0),(5,(-1))],.sl 3 4 0 6 [(6,(-1)),(0,0),(8,(-1))],qz 4,ql 4 1,qz 1,ql 1 7,qu 1 8]],((7,0),(1,0))⟩)]),(11,[qV 0 (.l 5) 7,qV 1 (.l 6) 8]),(12,[(0,⟨2,[.bl 3 0],[(9,qI 1)],[(8,[.sl 2 (some 1),.sx [] (some 3)])],[],[[.sl 2 1 0 0 [(0,0),(0,99)],qz 1,ql 1 3]],((3,0),(1,0))⟩),(1,⟨3,[.bl 3 1,.bl 8 0],[(10,qI 1)],[(8,[.sl 2 (some 1),.sl 3 (some 3)])],[],[agd],((4,0),(1,0))⟩)]),(13,[(0,⟨5,[.bl 3 0,.bl 3 1,.l 2,.bl 4 0,.bl 4 1],[(10,qI 1)],[(9,[.sl 2 (some 1),.sl 3 (some 3)])],[],[[.sl 2 4 0 0 [(0,0),(6,(-1))],.sl 3 5 0 6 [(7,(-1)),(0,0),(4,(-1))],qz 1,.le 1 8 1,qz 5,.le 5 1 2,ql 9 4,qu 4 4,ql 10 5]],((8,1),(1,0))⟩)]),(14,[qV 0 (.l 1) 6]),(15,[qV 0 (.l 1) 5,qV 1 (.l 1) 6]),(16,[qV 1 (.t 70) 71]),(17,[qV 0 (.t 4) 5]),(20,[qV 0 (.t 12) 13]),(22,[qV 0 (.t 22) 23]),(23,[qV 0 (.t 49) 50]),(30,[qV 0 (.t 7) 8]),(31,[qV 0 (.bl 2 0) 5]),(33,[qV 0 (.l 2) 8]),(35,[qV 0 (.l 0) 5]),(37,[qV 0 (.l 1) 7]),(40,[qV 0 (.t 11) 12]),(42,[qV 0 (.t 43) 44]),(48,[qV 0 (.t 24) 25]),(52,[qV 0 (.t 53) 54,qV 1 (.t 94) 95]),(53,[qV 0 (.t 12) 13]),(54,[qV 0 (.t 30) 31]),(56,[qV 0 (.t 7) 8]),(64,[(0,⟨1,[.sb 1 0,.bl 1 0],[(3,qI 1)],[],[],[[qz 1,ql 1 3,.pr 0 [.s 2,.i 1 0]]],((3,0),(1,0))⟩),(1,⟨1,[.sb 1 1,.bl 1 1,.bl 1 0],[(4,qI 1)],[],[],[[qz 1,ql 1 3,.pr 1 [.s 2,.i 1 0,.i 4 0]]],((3,0),(1,0))⟩)]),(65,[qV 0 (.bl 3 1) 7]),(66,[(0,⟨2,[.t 0],[(3,.sl 1 (some 1)),(4,qI 2)],[],[],[[.sl 1 2 0 0 [(0,0),(3,(-1))],qz 2,ql 2 3]],((3,0),(2,0))⟩)]),(67,[qV 0 (.bl 1 0) 4,qV 1 (.bl 1 1) 6]),(68,[qV 0 (.l 7) 9]),(79,[(0,⟨3,[.t 18],[(7,.sl 1 (some 1)),(19,qI 2)],[],[],[TX],((4,0),(2,0))⟩)]),(88,[qV 0 (.t 13) 14]),(94,[qV 0 (.t 22) 23]),(96,[qV 0 (.t 7) 8]),(118,[qV 0 (.l 0) 5]),(119,[qV 0 (.l 0) 5]),(120,[qV 0 (.t 1) 6,qV 1 (.l 7) 8,qV 2 (.t 8) 9]),(121,[qV 0 (.t 1) 6]),(125,[qV 0 (.bl 3 0) 5]),(128,[qV 0 (.t 7) 8]),(129,[qV 0 (.t 7) 8]),(132,[qV 0 (.t 7) 8]),(137,[qV 0 (.t 28) 29,qV 1 (.t 45) 46]),(138,[qV 0 (.t 24) 25]),(139,[qV 0 (.t 43) 44,qV 1 (.t 72) 73]),(148,[qV 0 (.t 59) 60]),(149,[qV 0 (.t 46) 47]),(154,[(0,⟨3,[.t 7],[(5,.sl 1 (some 1)),(8,qI 2)],[],[],[TX],((4,0),(2,0))⟩)]),(165,[qV 0 (.bl 3 2) 8,qV 1 (.b 3 3) 13]),(168,[qV 0 (.l 0) 3,qV 1 (.t 3) 4]),(170,[qV 0 (.l 2) 9,qV 1 (.l 3) 10]),(172,[qV 0 (.bl 3 0) 9,qV 1 (.bl 3 1) 10]),(175,[qV 0 (.bl 3 0) 5,qV 1 (.bl 3 1) 6]),(180,[qV 0 (.l 6) 7]),(185,[qV 0 (.t 11) 12]),(208,[qV 0 (.t 18) 19]),(212,[(0,⟨2,[.t 24],[(25,qI 1)],[(8,[.sl 2 (some 1),.sx [] (some 3)])],[],[[.sl 2 1 0 0 [(0,0),(0,99)],qz 1,ql 1 3]],((3,0),(1,0))⟩),(1,⟨3,[.t 42,.bl 8 0],[(43,qI 1)],[(8,[.sl 2 (some 1),.sl 3 (some 3)])],[],[agd],((4,0),(1,0))⟩)]),(217,[qV 0 (.t 52) 53]),(220,[qV 0 (.l 0) 3,qV 1 (.t 3) 4]),(221,[qV 0 (.bl 3 0) 5,qV 1 (.bl 3 1) 6]),(224,[qV 0 (.l 1) 5]),(227,[(0,⟨3,[.t 0],[(5,.sl 1 (some 1)),(6,qI 2)],[],[],[TX],((4,0),(2,0))⟩)]),(229,[qV 0 (.bl 5 1) 10]),(230,[qV 0 (.bl 2 0) 5]),(240,[qV 0 (.t 7) 8]),(256,[qV 0 (.t 7) 8]),(262,[(0,⟨2,[.t 6],[(7,qI 1),(8,qI 2)],[],[],[[qz 1,ql 1 2,ql 2 3,qu 2 1000]],((2,0),(1,0))⟩)]),(268,[qV 0 (.l 12) 13]),(271,[qV 0 (.l 0) 5]),(272,[qV 0 (.bl 1 1) 3]),(275,[qV 0 (.t 7) 8]),(278,[qV 0 (.t 9) 10]),(279,[qV 0 (.t 7) 8]),(318,[qV 0 (.t 29) 30]),(332,[qV 0 (.t 7) 8]),(363,[qV 0 (.t 8) 9]),(365,[qV 0 (.t 7) 8]),(367,[qV 0 (.t 7) 8])]
def smL:List (Nat×Nat×Sm):=[]
def am1:List (Nat×List (Nat×List (Nat×Inv))):=[(39,[(128,[(0,⟨1,[.s 0,.t 7],[(8,qI 1)],[],[],[[qz 1,ql 1 3,.pr 0 [.s 2,.i 1 0]]],((3,0),(1,0))⟩)]),(129,[(0,⟨1,[.s 0,.t 7,.ul 0 1 0],[(8,qI 1)],[],[],[[qz 1,ql 1 3,.pr 1 [.s 2,.i 1 0,.i 4 0]]],((3,0),(1,0))⟩)])])]
def afi:sQ:=⟨1,[],.pr 0 [.s 1,.i 0 0]⟩
def D1:sQ:=⟨3,[.f (.pr 0 [.s 1,.i 2 0]),.f (.el 1 2 0 [qI 3]),.f (qz 3),.f (qu 3 99)],.pr 0 [.s 1,.i 2 1]⟩
def HV:sQ:=⟨3,[.f (.pr 0 [.s 1,.i 3 0]),.f (ql 2 3),.len 1 2 0],.sl 1 2 0 0 [(0,0),(0,99)]⟩
def aag:sQ:=⟨2,[],.pr 1 [.s 1,.i 0 0,.i 2 0]⟩
def vn:sQ:=⟨6,[.f (.pr 1 [.s 1,.i 2 0,.i 3 0]),.f (.el 1 2 0 [qI 4,qI 5,qI 6]),.f (qz 4),.f (qu 4 99),.f (qz 5),.f (.le 5 3 (-1)),.f (qz 6),.f (.le 6 3 (-1))],.pr 1 [.s 1,.i 2 1,.i 3 0]⟩
def EA:sQ:=⟨4,[.f (.pr 1 [.s 1,.i 4 0,.i 3 0]),.f (ql 2 4),.len 1 2 0],.sl 1 2 0 6 [(0,99),(0,0),(3,(-1))]⟩
def Ik:List (Nat×List sQ):=[(0,[afi,D1]),(1,[HV]),(2,[aag,vn]),(13,[EA])]
def azN(k:Nat):List sQ:=match lk Ik k with|some l=>l|none=>[]
section
open Go.Proofs
variable{a b:Int}
def FT(l:aS)(i:Int):Prop:=∀(j:Nat) e,(j:Int)<i->l[j]? =some e->∃v:Int,e=[.sc (.int .i64 v)]/\0<=v/\v<=99
def Gc(l:aS)(i n:Int):Prop:=∀(j:Nat) e,(j:Int)<i->l[j]? =some e->∃t a b:Int,e=[.sc (.int .i64 t),.sc (.int .i64 a),.sc (.int .i64 b)]/\0<=t/\t<=99/\0<=a/\a<=n- 1/\0<=b/\b<=n- 1
def prC:Nat->List SV->Prop
 |0,[l,i]=>FT l.l i.i
 |1,[l,i,n]=>Gc l.l i.i n.i
 |100,[a,b,z]=>D3 100 a.i b.i=pure (.int .u64 z.i)
 |101,[a,b,z]=>D3 101 a.i b.i=pure (.int .u64 z.i)
 |102,[a,b,z]=>D3 102 a.i b.i=pure (.int .u64 z.i)
 |103,[a,b,z]=>D3 103 a.i b.i=pure (.int .u64 z.i)
 |_,_=>False
def bQ:js:=⟨λ i=>Rq[i]?,prC,azN⟩
def axl:∀nm d,bQ.td nm=some d->d.facts.all (cq.low nm)=true/\d.p+2<=d.k:=by
 intro nm d h;have D:Rq.zipIdx.all (λ p=>p.1.facts.all (cq.low p.2)&&Nat.ble (p.1.p+2) p.1.k)=true:=by kernel_rfl
 have A:(d,nm)∈Rq.zipIdx:=Ig.2 h;have:=ij.1 D _ A;rw[aR]at this;exact⟨this.1,Vf this.2⟩
def vB{nm:Nat}{d:vQ}(M:bQ.td nm=some d){bs:List Int}{e:List ae}(G:bs.length=d.p){env:List SV}(h1:env=SV.z::bs.map (λ n=>⟨n,false,[],[]⟩)++⟨j,false,[],[]⟩::env.drop (d.p+2))(h2:env.length<=d.k)
 (h3:e=aE (aQ env) d.cells) (Y:∀f∈d.facts,dL bQ (aQ env) f) (J:d.facts.all (cq.low nm)=true):dX bQ nm bs j e:=by
 rw[dX,M];refine⟨G,env,h1,h2,h3,λ f A=>?_⟩;have h:=Y f A;have D:=ij.1 J f A;cases f with
 |sl x n c F cs=>
  refine⟨h.1,λ i e L=>?_⟩;rw[xB (kQ D)];exact h.2 i e L
 |le a b c=>exact h
 |str x s=>exact h
 |bb x b=>exact h
 |el x i c cells=>cases D
 |sum z a b c=>exact h
 |pr k l=>exact h
theorem aeW{v:Int}(D:a<=v)(A:v<=b):dX bQ 0 [a,b] j [.sc (.int .i64 v)]:=by
 refine vB (nm:=0) (d:=⟨5,2,[.int .i64 4 0],[.le 1 4 0,.le 4 2 0]⟩) rfl rfl (env:=[SV.z,⟨a,false,[],[]⟩,⟨b,false,[],[]⟩,⟨j,false,[],[]⟩,⟨v,false,[],[]⟩]) rfl (be _) ?_ ?_ rfl;.show _=[ae.sc (.int .i64 (v+0))];rw[iY]
 intro f h;simp only[ck,lB,l7]at h;rcases h with rfl|rfl
 .show a<=v+0;omega
 show v<=b+0;omega
def acB{th fl fh t:Int}(J:0<=t)(G:t<=th)(h3:fl<=a)(F:a<=fh)(D:fl<=b)(A:b<=fh):dX bQ 6 [th,fl,fh] j [.sc (.int .i64 t),.sc (.int .i64 a),.sc (.int .i64 b)]:=by
 refine vB (nm:=6) (d:=⟨8,3,[.int .i64 5 0,.int .i64 6 0,.int .i64 7 0],[.le 0 5 0,.le 5 1 0,.le 2 6 0,.le 6 3 0,.le 2 7 0,.le 7 3 0]⟩) rfl rfl (env:=[SV.z,⟨th,false,[],[]⟩,⟨fl,false,[],[]⟩,⟨fh,false,[],[]⟩,⟨j,false,[],[]⟩,⟨t,false,[],[]⟩,⟨a,false,[],[]⟩,⟨b,false,[],[]⟩]) rfl (be _) ?_ ?_ rfl;.show _=[ae.sc (.int .i64 (t+0)),ae.sc (.int .i64 (a+0)),ae.sc (.int .i64 (b+0))];rw[iY,iY,iY]
 intro f h;simp only[ck,lB,l7]at h;rcases h with rfl|rfl|rfl|rfl|rfl|rfl
 .show(0:Int)<=t+0;omega
 .show t<=th+0;omega
 .show fl<=a+0;omega
 .show a<=fh+0;omega
 .show fl<=b+0;omega
 show b<=fh+0;omega
def r0:wD bQ afi:=by intro ρ h0 _;show FT (ρ 1).l ((ρ 0).i+0);rw[h0];intro j e h;have:(j:Int)<0+0:=h;omega
def r1:wD bQ D1:=by
 intro ρ h0 h;have G:FT (ρ 1).l ((ρ 2).i+0):=h (.f (.pr 0 [.s 1,.i 2 0])) (by simp[D1]);have F:dL bQ ρ (.el 1 2 0 [.int .i64 3 0]):=h (.f (.el 1 2 0 [.int .i64 3 0])) (by simp[D1]);have p2:(ρ 0).i<=(ρ 3).i+0:=h (.f (.le 0 3 0)) (by simp[D1]);have L:(ρ 3).i<=(ρ 0).i+99:=h (.f (.le 3 0 99)) (by simp[D1]);have M:(ρ 0).i=0:=by rw[h0];rfl
 obtain⟨q,J,q2⟩:=F;show FT (ρ 1).l ((ρ 2).i+1);intro j e Y D;by_cases A:j=q;.subst A;rw[q2]at D;cases D;exact⟨(ρ 3).i+0,rfl,by omega,by omega⟩
 exact G j e (by omega) D
theorem r2:wD bQ HV:=by
 intro ρ h0 h;have D:FT (ρ 1).l ((ρ 3).i+0):=h (.f (.pr 0 [.s 1,.i 3 0])) (by simp[HV]);have L:(ρ 2).i<=(ρ 3).i+0:=h (.f (.le 2 3 0)) (by simp[HV]);have p2:((ρ 1).l.length:Int)=(ρ 2).i+0:=h (.len 1 2 0) (by simp[HV]);have F:(ρ 0).i=0:=by rw[h0];rfl
 refine⟨p2,λ j e A=>?_⟩;have M:=Jw A;obtain⟨v,rfl,J,G⟩:=D j e (by omega) A;show dX bQ 0 [(ρ 0).i+0,(ρ 0).i+99] j _;rw[F];exact aeW (by omega) (by omega)
def r3:wD bQ aag:=by intro ρ h0 _;show Gc (ρ 1).l ((ρ 0).i+0) ((ρ 2).i+0);rw[h0];intro j e h;have:(j:Int)<0+0:=h;omega
def r4:wD bQ vn:=by
 intro ρ h0 h;have G:Gc (ρ 1).l ((ρ 2).i+0) ((ρ 3).i+0):=h (.f (.pr 1 [.s 1,.i 2 0,.i 3 0])) (by simp[vn]);have F:dL bQ ρ (.el 1 2 0 [.int .i64 4 0,.int .i64 5 0,.int .i64 6 0]):=h (.f (.el 1 2 0 [.int .i64 4 0,.int .i64 5 0,.int .i64 6 0])) (by simp[vn]);have p2:(ρ 0).i<=(ρ 4).i+0:=h (.f (.le 0 4 0)) (by simp[vn]);have p3:(ρ 4).i<=(ρ 0).i+99:=h (.f (.le 4 0 99)) (by simp[vn]);have p4:(ρ 0).i<=(ρ 5).i+0:=h (.f (.le 0 5 0)) (by simp[vn]);have Y:(ρ 5).i<=(ρ 3).i+(-1):=h (.f (.le 5 3 (-1))) (by simp[vn]);have M:(ρ 0).i<=(ρ 6).i+0:=h (.f (.le 0 6 0)) (by simp[vn]);have L:(ρ 6).i<=(ρ 3).i+(-1):=h (.f (.le 6 3 (-1))) (by simp[vn]);have hz:(ρ 0).i=0:=by rw[h0];rfl
 obtain⟨q,J,q2⟩:=F;show Gc (ρ 1).l ((ρ 2).i+1) ((ρ 3).i+0);intro j e hj D;by_cases A:j=q;.subst A;rw[q2]at D;cases D;exact⟨(ρ 4).i+0,(ρ 5).i+0,(ρ 6).i+0,rfl,by omega,by omega,by omega,by omega,by omega,by omega⟩
 exact G j e (by omega) D
def r5:wD bQ EA:=by
 intro ρ h0 h;have D:Gc (ρ 1).l ((ρ 4).i+0) ((ρ 3).i+0):=h (.f (.pr 1 [.s 1,.i 4 0,.i 3 0])) (by simp[EA]);have G:(ρ 2).i<=(ρ 4).i+0:=h (.f (.le 2 4 0)) (by simp[EA]);have p2:((ρ 1).l.length:Int)=(ρ 2).i+0:=h (.len 1 2 0) (by simp[EA]);have F:(ρ 0).i=0:=by rw[h0];rfl
 refine⟨p2,λ j e A=>?_⟩;have J:=Jw A;obtain⟨t,a,b,rfl,h1,h2,h3,Y,M,L⟩:=D j e (by omega) A;show dX bQ 6 [(ρ 0).i+99,(ρ 0).i+0,(ρ 3).i+ -1] j _;rw[F];exact acB (by omega) (by omega) (by omega) (by omega) (by omega) (by omega)
def ayZ:∀k r,r∈bQ.rl k->wD bQ r:=by
 intro k r h;have A:Bu (λ p:Nat×List sQ=>Bu (wD bQ) p.2) Ik:=⟨⟨r0,r1,trivial⟩,⟨r2,trivial⟩,⟨r3,r4,trivial⟩,⟨r5,trivial⟩,trivial⟩;have h:r∈(match lk Ik k with|some l=>l|none=>[]):=h;split at h
 .rename_i l J
  have G:(k,l)∈Ik:=by
   have D:∀{L:List (Nat×List sQ)},lk L k=some l->(k,l)∈L:=by
    intro L;induction L with
    |nil=>intro h;cases h
    |cons p L F=>
     obtain⟨i,w⟩:=p;intro h;unfold lk at h;split at h;.rename_i e;cases h;subst e;exact cS
     exact cz _ (F h)
   exact D J
  exact(A.mem _ G).mem r h
 cases h
def akh:AR bQ:=by
 intro id a b z D A h;have:id=100\/id=101\/id=102\/id=103:=by omega
 rcases this with rfl|rfl|rfl|rfl<;>exact h
def AX:kI bQ:=⟨axl,ayZ,akh⟩
end
section
open Go.Proofs
def Uy(l:List (Nat×List (Nat×Inv)))(f j:Nat):Option Inv:=match lk l f with|some r=>lk r j|none=>none
def aAx(h f j:Nat):Option Inv:=match lk am1 h with
 |some l=>(match Uy l f j with|some I=>some I|none=>Uy afN f j)
 |none=>Uy afN f j
def Ju:List Nat:=[8,9,10,12,13,14,15,16,17,20,21,22,23,24,25,26,27,30,31,32,33,34,35,36,37,38,39,40,41,42,43,44,45,46,48,49,50,52,53,54,55,56,60,61,62,63,64,65,66,67,68,69,70,71,72,73,74,75,76,77,78,79,80,81,83,84,85,86,87,88,89,90,91,92,93,94,96,97,99,100,101,102,103,111,116,117,118,119,120,121,122,123,124,125,126,127,128,129,130,131,132,133,134,135,136,137,138,139,148,149,150,151,152,153,154,160,163,164,165,166,167,168,169,170,171,172,173,175,176,178,179,180,181,182,183,184,185,203,204,205,206,208,209,210,212,213,214,215,216,217,219,220,221,224,227,228,229,230,231,232,233,234,235,236,237,238,239,240,241,254,256,257,258,261,262,264,265,267,268,271,272,273,275,276,277,278,279,309,310,311,315,318,319,320,321,322,324,325,326,330,332,333,363,364,365,366,367,402]
def okL:List Nat:=[82,147,161,162,177,263]++Ju
def AL:List Nat->Nat->Bool
 |[],_=>false
 |a::l,b=>Nat.beq a b||AL l b
def bsL:List Nat:=[3,4,5,6,7,11,51,57,82,162,177,263]
def bset(g:FuncId):Bool:=AL bsL g
def ak6(f g:Nat):Option Sm:=match smL.find? (λ p=>Nat.beq p.1 f&&Nat.beq p.2.1 g)with|some p=>some p.2.2|none=>none
def fnM(f:Nat):Option cZ:=match AL Ju f with|true=>db af (pol f) f|false=>none
def Cx(i h:Nat):eL:=⟨fnM,λ f g=>Fl i f g wq,bQ,aAx h,AL okL,λ t=>Nat.beq t 9,none,ak6⟩
def Cu(i h:Nat):eL:={Cx i h with inv:=λ f j=>match Nat.beq f 128 with|true=>none|false=>(Cx i h).inv f j}
def cxu(u:Bool)(i h:Nat):eL:=match u with|true=>Cu i h|false=>Cx i h
def kp(u:Bool)(i f:Nat)(c:Ct):Bool:=match db af (pol f) f with|some F=>keeps (cxu u i f) 200 f F c|none=>false
end
section
open Go.Proofs
variable{g:Nat}{p:Int->Option Bool}
variable{gl:aM}{base:eH}
abbrev VW(gl:aM)(base:eH):cI:=vω af pol gl bset base
def tA{F:bI}:b7 (F::S) d k=if d=S.length then lk F k else b7 S d k:=rfl
def OC:cy af 30=true:=by kernel_rfl
def TP:cy af 128=true:=by kernel_rfl
def Gi:cy af 89=true:=by kernel_rfl
def zl:cy af 73=true:=by kernel_rfl
def mU:cy af 8=true:=by kernel_rfl
def aAA:cy af 136=true:=by kernel_rfl
def XB(J:l.length<=1000000)(A:cy af g=true)(G:cap.any ae.fY=false)(F:(ae.fn g cap).open=true)
 (D:∀x b,x∈l->p x=some b->VW gl base g (eI x::cap.map (gQ ([]::S))) ([]::S)=some (eB b,[]::S,false)) {z:Int} (h:lg p 0 l=some z):
 VW gl base 128 [aD l,.fn g cap] S=some (eI z,S,false):=
 jG asG rfl (by simp only[xA,F,Em,rM]) (amq J A G D h)
def Gx{S:List bI}(hl:l.length<=1000000)(L:cy af g=true)(Y:cap.any ae.fY=false)(D:(ae.fn g cap).open=true)(J:∀S,cap.map (gQ S)=cap)
 (M:∀x b,x∈l->p x=some b->VW gl base g (eI x::cap) ([]::[]::S)=some (eB b,[]::[]::S,false)) {b:Bool} (h:jy p l=some b):
 VW gl base 73 [aD l,.fn g cap] S=some (eB b,S,false):=by
 obtain⟨z,F,A⟩:=vT (i:=0) h;have hc:=XB (S:=[]::S) hl L Y D (by intro x b G A;rw[J];exact M x b G A) F;refine jG m59 rfl (by simp only[xA,D,Em,rM]) ?_;simp+decide only[bz,F59,VB,lk,aB,↓reduceIte,Nat.reduceBEq,Nat.reduceAdd,Ym,Wz,aI TP,hc,A]
def aeA{Z7:cI}{x:Int}(Y:l.length<=1000000){z:Int}(h:lg (λ y=>some (decide (x=y))) 0 l=some z):bz af gl Z7 LB [aD l,eI x] S=some (eI z,S,false):=by
 have M:=tP (P:=af) (gl:=gl) (Z7:=Z7) (n:=19) (len:=l.length) (C:=HW) (B:=Dn) (f:=lL (λ y=>some (decide (x=y))) (λ i=>(.ret,[(4,eI i)],(aH [] S))) l)
  (TT:=λ i _=>[(0,aD l),(1,eI x),(7,eI l.length),(8,eI i)]) (ST:=λ _=>(aH [] S))
  (X:=λ _=>(.exit 0,[(0,aD l),(1,eI x),(7,eI l.length),(8,eI l.length),(9,eB false)],(aH [] S))) ?_ ?_ ?_ l.length 0 ()
 .have F:=xe (R:=λ i=>(.ret,[(4,eI i)],(aH [] S))) l.length 0 z (by omega) h;rcases F with⟨rfl,F⟩|⟨j,rfl,F⟩
  .have A:aJ af gl Z7 19 HW [(0,aD l),(1,eI x),(7,eI l.length),(8,eI 0)] (aH [] S)=_:=M _ (by omega) F;simp+decide only[bz,LB,VB,lk,aB,↓reduceIte,Nat.reduceBEq,Nat.reduceAdd,OW,Ut,RH,aF,A]
  have A:aJ af gl Z7 19 HW [(0,aD l),(1,eI x),(7,eI l.length),(8,eI 0)] (aH [] S)=_:=M _ (by omega) F;simp+decide only[bz,LB,VB,lk,aB,↓reduceIte,Nat.reduceBEq,Nat.reduceAdd,OW,Ut,RH,aF,A]
 .intro i s;rw[avW];simp+decide only[VB,lk,aB,↓reduceIte,Nat.reduceBEq,Nat.reduceAdd]
 .intro i s hi;have D:((i:Int)<(l.length:Int))=True:=dw (by omega);have J:l[i]? =some l[i]:=cW hi;have L:(l.map λ n=>[eI n])[i]? =some [eI l[i]]:=by rw[bM,J];rfl
  simp only[lL,J];by_cases G:x=l[i];.simp only[dV G];refine⟨?_,λ h=>by cases h⟩;simp+decide only[Dn,VB,lk,aB,↓reduceIte,Nat.reduceBEq,Nat.reduceAdd,JD,Pj,Ot,NJ,Qu,D,aY L,dV G]
  simp only[cX G];simp+decide only[Dn,VB,lk,aB,↓reduceIte,Nat.reduceBEq,Nat.reduceAdd,JD,Pj,Ot,NJ,Qu,D,aY L,gW (show i<=4611686018427387904 by omega),cX G]
 intro s;refine⟨?_,λ h=>by cases h⟩;simp+decide only[Dn,VB,lk,aB,↓reduceIte,Nat.reduceBEq,Nat.reduceAdd,JD,jT]
def Gr{α:Type}{p:α->Bool}:∀{l:List α},jy (λ y=>some (p y)) l=some (l.any p)
 |[]=>rfl
 |x::l=>by
  simp only[jy,xA];cases p x;.exact Gr
  rfl
def uZ{l:List Int}{x:Int}(A:l.length<=1000000):VW gl base 8 [aD l,eI x] S=some (eB (l.any λ y=>decide (x=y)),S,false):=by
 obtain⟨z,h,F⟩:=vT (i:=0) (Gr (p:=λ y=>decide (x=y)) (l:=l));have D:∀S,VW gl base 30 [aD l,eI x] S=some (eI z,S,false):=λ S=>iU ade rfl rfl (aeA A h)
 refine iU (S':=[]) (w:=false) m70 rfl rfl ?_;simp+decide only[bz,F70,VB,lk,aB,↓reduceIte,Nat.reduceBEq,Nat.reduceAdd,aa3,abZ,aI OC,D,F]
def aqt{x:Int}(A:l.length<=1000000)(h:b7 S d k=some [aD l]):VW gl base 136 [eI x,.ptr d k 0] S=some (eB (l.any λ y=>decide (x=y)),S,false):=by have D:(d=S.length)=False:=b6 (by have:=cY h;omega);refine jG awy rfl rfl ?_;simp+decide only[bz,abY,VB,lk,aB,↓reduceIte,Nat.reduceBEq,Nat.reduceAdd,agq,ad8,aI mU,D,h,uZ A]
def NK{a b:List Int}(D:a.length<=1000000)(A:b.length<=1000000):VW gl base 91 [aD a,aD b] S=some (eB (a.any λ x=>b.any λ y=>decide (x=y)),S,false):=by refine iU (S':=[]) (w:=false) m79 rfl rfl ?_;have h:VW gl base 73 [aD a,.fn 136 [.ptr 0 3 0]] [[(3,[aD b])]]=some (eB (a.any λ x=>b.any λ y=>decide (x=y)),[[(3,[aD b])]],false):=Gx D aAA rfl rfl (λ _=>rfl) (λ x c _ e=>by cases e;exact aqt A rfl) Gr;simp+decide only[bz,F79,VB,lk,aB,↓reduceIte,Nat.reduceBEq,Nat.reduceAdd,XL,ah6,aI zl,h]
end
section
open Go.Proofs
variable{kE:List Int}{r:RU}
variable{gl:aM}{base:eH}
abbrev fk(l:List Int):ae:=.sl (l.map λ n=>[eI n]) (some 1)
def zZ{x:Int}:(ae.sl (l.map (λ n=>[eI n])++[[eI x]]) (some 1))=fk (l++[x]):=by simp
def fW(l:List Int)(x:Int):Bool:=l.any λ y=>decide (x=y)
def vY(kE:List Int):Nat->List Int->List Int->List Int
 |_,[],o=>o
 |i,k::l,o=>vY kE (i+1) l (if fW kE i then o else o++[k])
def qW(N:aT)(x:Oc):Option (List Int):=match df N.R x.ru with|some r=>some (vY r.kE 0 x.ed [])|none=>none
def ZO:∀{l:List Int} {i:Nat} {o:List Int},(vY kE i l o).length<=o.length+l.length
 |[],i,o=>be _
 |k::l,i,o=>by
  simp only[vY];refine fX ZO ?_;split;.simp only[cD];omega
  simp only[dM,cD,dG];omega
def FO(kE:List Int)(l:List Int)(i:Nat)(o:List Int):Option (List Int⊕bZ):=if o.length<=i then(match l[i]?with|some k=>some (.inl (if fW kE i then o else o++[k]))|none=>none)else none
def aof:∀k i o,i+k=l.length->o.length<=i->sJ (FO kE l) k i o=some (.inl (vY kE i (l.drop i) o)):=by
 intro k;induction k with
 |zero=>
  intro i o hi _;rw[Nw (by omega)];rfl
 |succ k A=>
  intro i o hi D;have h:i<l.length:=by omega
  rw[rL h];simp only[sJ,FO,ao D,cW h,vY];refine A (i+1) _ (by omega) ?_;split;.omega
  simp only[dM,cD,dG];omega
def c80{x:Oc}{c:Option Nat}(hN:b7 S d k=some (N.c a b c))(hl:x.ed.length<=1000)(J:df N.R x.ru=some r)(hk:r.kE.length<=1000):
 bz af gl (VW gl base) Qo [.ptr d k 0,.agg x.c] S=some (aD (vY r.kE 0 x.ed []),S,false):=by
 obtain⟨ri,e2,J⟩:=jU J;have M:(d=S.length)=False:=b6 (by have:=cY hN;omega);have L:(d==S.length)=false:=by simp[M]
 have A:(N.R.map RU.c)[ri]? =some r.c:=by rw[bM,J];rfl
 have hL:=tP (P:=af) (gl:=gl) (Z7:=VW gl base) (n:=35) (len:=x.ed.length) (C:=LY) (B:=Da) (f:=FO r.kE x.ed)
  (TT:=λ i o=>[(0,.ptr d k 0),(3,.ptr S.length 3 0),(5,fk o),(9,aD x.ed),(10,eI x.ed.length),(11,eI i)]) (ST:=λ _=>(aH [(3,x.c)] S))
  (X:=λ o=>(.exit 0,[(0,.ptr d k 0),(3,.ptr S.length 3 0),(5,fk o),(9,aD x.ed),(10,eI x.ed.length),(11,eI x.ed.length),(12,eB false)],(aH [(3,x.c)] S))) ?_ ?_ ?_ x.ed.length 0 [] (.inl (vY r.kE 0 x.ed [])) (by omega) (aof x.ed.length 0 [] (by omega) (be _))
 .have G:aJ af gl (VW gl base) 35 LY [(0,.ptr d k 0),(3,.ptr S.length 3 0),(5,.sl [] (some 1)),(9,aD x.ed),(10,eI x.ed.length),(11,eI 0)] (aH [(3,x.c)] S)=_:=hL;simp+decide only[Oc.c]at G;simp+decide only[bz,Qo,VB,lk,aB,↓reduceIte,Nat.reduceBEq,Nat.reduceAdd,abr,ahC,aeq,aeL,aF,Oc.c,L,G]
 .intro i s;rw[axu];simp+decide only[VB,lk,aB,↓reduceIte,Nat.reduceBEq,Nat.reduceAdd]
 .intro i s hi;have D:((i:Int)<(x.ed.length:Int))=True:=dw (by omega);have hx:x.ed[i]? =some x.ed[i]:=cW hi;have he:(x.ed.map λ n=>[eI n])[i]? =some [eI x.ed[i]]:=by rw[bM,hx];rfl
  by_cases ho:s.length<=i
  .simp only[FO,ao ho,hx];have Y:∀st,iG st 1 (fk s) (.sl [[eI x.ed[i]]] (some 1))=some (fk (s++[x.ed[i]])):=λ st=>by rw[<-zZ];exact lZ (by simp only[aF,cD,dG];omega) rfl
   have F:(r.kE.any λ y=>decide ((i:Int)=y))=fW r.kE i:=rfl;cases hh:fW r.kE i;.simp+decide only[Da,VB,lk,aB,↓reduceIte,Nat.reduceBEq,Nat.reduceAdd,IC,Ou,NR,Q0,SA,D,aY he,gW (show i<=4611686018427387904 by omega),Oc.c,hN,M,aT.c,e2,aY A,RU.c,aI mU,uZ (show r.kE.length<=1000000 by omega),F,hh,fD,Y]
   simp+decide only[Da,VB,lk,aB,↓reduceIte,Nat.reduceBEq,Nat.reduceAdd,IC,Ou,NR,Q0,SA,D,aY he,gW (show i<=4611686018427387904 by omega),Oc.c,hN,M,aT.c,e2,aY A,RU.c,aI mU,uZ (show r.kE.length<=1000000 by omega),F,hh]
  simp only[FO,aj ho]
 .intro s;refine⟨?_,λ h=>by cases h⟩;simp+decide only[Da,VB,lk,aB,↓reduceIte,Nat.reduceBEq,Nat.reduceAdd,IC,jT]
def w80{x:Oc}{c:Option Nat}(F:b7 S d k=some (N.c a b c))(A:x.ed.length<=1000)(h:df N.R x.ru=some r)(D:r.kE.length<=1000):
 VW gl base 92 [.ptr d k 0,.agg x.c] S=some (aD (vY r.kE 0 x.ed []),S,false):=
 jG m80 rfl rfl (c80 F A h D)
def w74{c:Option Nat}(D:b7 S d k=some (N.c a b c))(A:l.length<=1000000){r:BitVec 64}(h:sq N l=some r):
 VW gl base 87 [.ptr d k 0,aD l] S=some (eW r,S,false):=
 jG m74 rfl rfl (azO D A h)
def gO(x:Oc):List Int:=x.no++x.ed
def kK(base:eH):Prop:=bset 57=true/\∀a b:List Int,a.length<=1000->b.length<=1000->base 57 [.sl [[aD a],[aD b]] none]=some (aD (a++b))
def asB:cy af 57=true:=by kernel_rfl
def E8(h:kK base){x:Oc}(A:x.no.length<=1000)(D:x.ed.length<=1000):VW gl base 27 [.agg x.c] S=some (aD (gO x),S,false):=by
 have F:∀S,VW gl base 57 [.sl [[aD x.no],[aD x.ed]] none] S=some (aD (gO x),S,false):=λ S=>wU h.1 (h.2 _ _ A D) rfl
 refine iU (S':=[]) (w:=false) m75 rfl rfl ?_;simp+decide only[bz,F75,VB,lk,aB,↓reduceIte,Nat.reduceBEq,Nat.reduceAdd,Yf,aij,aI asB,Oc.c,asL,F]
end
section
open Go.Proofs
variable{s:BitVec 64}{t:Nat}
variable{gl:aM}{base:eH}
def tg(s:BitVec 64):List Nat:=(List.range 64).filter λ i=>s.toNat.testBit i
def azX:∀n:Nat,n≠0->∃t m,n=2^(t+1)*m+2^t:=by
 intro n;induction n using Nat.strongRecOn with
 |_ n A=>
  intro D;by_cases h:n%2=1;.exact⟨0,n/2,by omega⟩
  obtain⟨t,m,e⟩:=A (n/2) (by omega) (by omega);refine⟨t+1,m,?_⟩;have:n=2*(n/2):=by omega
  rw[this,e,Nat.mul_add,<-aiK,Ih 2 (t+1),Ih 2 t];simp only[BA,Nat.mul_left_comm]
def QC:(2^(t+1)*m+2^t).testBit i=if i<t+1 then decide (t=i)else m.testBit (i-(t+1)):=by
 rw[aBf _ (by rw[Ih];have:=Nat.two_pow_pos t;omega)];split;.rw[Nat.testBit_two_pow]
 rfl
def acv:(2^(t+1)*m+2^t- 1).testBit i=if i<t+1 then decide (i<t)else m.testBit (i-(t+1)):=by
 have:=Nat.two_pow_pos t;rw[show 2^(t+1)*m+2^t- 1=2^(t+1)*m+(2^t- 1) by omega,aBf _ (by rw[Ih];omega)];split;.rw[Nat.testBit_two_pow_sub_one]
 rfl
def Ry(h:s≠0#64):∃t m,s.toNat=2^(t+1)*m+2^t/\tg s=t::tg (s&&&(s- 1#64))/\t<64:=by
 have J:s.toNat≠0:=λ e=>h (Ep e)
 obtain⟨t,m,e⟩:=azX s.toNat J;have L:=s.isLt
 have F:t<64:=by
  refine Ic λ hc=>?_
  have:=Vv (show 0<2 by decide) (show 64<=t by omega);omega
 refine⟨t,m,e,?_,F⟩;have e1:(s- 1#64).toNat=s.toNat- 1:=by rw[Vy];show(2^64- 1+s.toNat)%2^64=_;omega
 have D:∀i,(s&&&(s- 1#64)).toNat.testBit i=(if i<t+1 then false else m.testBit (i-(t+1))):=by
  intro i;rw[BitVec.toNat_and,Nat.testBit_and,e1,e,QC,acv];split
  .by_cases hi:t=i;.subst hi;simp
   simp[hi]
  simp
 have A:∀i,s.toNat.testBit i=if i<t+1 then decide (t=i)else m.testBit (i-(t+1)):=λ i=>by rw[e,QC]
 unfold tg
 have G:List.range 64=List.range t++t::(List.range (63-t)).map (t+1+·):=by
  rw[show 64=t+(1+(63-t)) by omega,List.range_add,List.range_add];simp only[List.range_one,mT,fL,Ny,nY,ko,Vt]
  congr 3
  funext i;simp only[Function.comp];omega
 rw[G,List.filter_append,List.filter_append,List.filter_cons,List.filter_cons];have f1:(List.range t).filter (λ i=>s.toNat.testBit i)=[]:=by rw[Vp];intro i hi;rw[zD]at hi;rw[A,ao (by omega)];simp;omega
 have f2:(List.range t).filter (λ i=>(s&&&(s- 1#64)).toNat.testBit i)=[]:=by rw[Vp];intro i hi;rw[zD]at hi;rw[D,ao (by omega)];simp
 have Y:s.toNat.testBit t=true:=by rw[A,ao (by omega)];exact dV rfl
 have M:(s&&&(s- 1#64)).toNat.testBit t=false:=by rw[D,ao (by omega)]
 rw[f1,f2,Y,M];simp only[jz,jS,rI,qv,rG,true_and];refine List.filter_congr λ i hi=>?_
 rw[eK]at hi;obtain⟨j,_,rfl⟩:=hi;rw[A,D,aj (by omega),aj (by omega)]
def PT:tg 0#64=[]:=by decide
def ahE:(tg s).length<=64:=fX (aiM _ _) (by rw[aD2];exact be _)
def dH(s:BitVec 64):List Int:=(tg s).map λ n:Nat=>(n:Int)
theorem Lg:(dH s).length<=64:=by unfold dH;rw[aF];exact ahE
def nD(gl:aM)(base:eH):Prop:=∀(s:BitVec 64) (t:Nat) (l:List Nat),tg s=t::l->∀S,VW gl base 135 [eW s] S=some (eI t,S,false)
def ap1:cy af 135=true:=by kernel_rfl
def asA(hT:nD gl base):∀(k:Nat) (s:BitVec 64) (o:List Int),(tg s).length=k->o.length+k<=64->
 aJ af gl (VW gl base) 16 J9 [(0,eW s),(3,fk o)] (aH [] S)=some (.exit 0,[(0,eW 0#64),(3,fk (o++dH s)),(5,eB false)],(aH [] S)):=by
 intro k;induction k with
 |zero=>
  intro s o h M;have L:s=0#64:=Ic λ A=>by obtain⟨t,m,_,e,_⟩:=Ry A;rw[e]at h;cases h
  subst L;rw[abB];simp+decide only[IS,VB,lk,aB,↓reduceIte,Nat.reduceBEq,Nat.reduceAdd,TE,ale,dH,PT]
 |succ k J=>
  intro s o h M;have A:s≠0#64:=λ e=>by subst e;rw[PT]at h;cases h
  have D:¬(s.toNat:Int)=0:=λ e=>A (Ep (by show s.toNat=0;omega))
  obtain⟨t,m,_,e,_⟩:=Ry A;have F:(tg (s&&&(s- 1#64))).length=k:=by rw[e]at h;simpa using h
  have hi:=J (s&&&(s- 1#64)) (o++[(t:Int)]) F (by simp only[dM,cD,dG];omega);have G:∀st,iG st 1 (fk o) (.sl [[eI t]] (some 1))=some (fk (o++[(t:Int)])):=λ st=>by rw[<-zZ];exact lZ (by simp only[aF,cD,dG];omega) rfl
  have Y:dH s=(t:Int)::dH (s&&&(s- 1#64)):=by simp only[dH,e,fL]
  rw[abB];simp+decide only[IS,VB,lk,aB,↓reduceIte,Nat.reduceBEq,Nat.reduceAdd,TE,aec,adR,b6 D,aI ap1,hT s t _ e,fD,G,aAh,af9,hi,Y]
  try simp
def HR(A:nD gl base){s:BitVec 64}:VW gl base 89 [eW s] S=some (aD (dH s),S,false):=by
 have h:∀S,aJ af gl (VW gl base) 16 J9 [(0,eW s),(3,.sl [] (some 1))] (aH [] S)=some (.exit 0,[(0,eW 0#64),(3,fk (dH s)),(5,eB false)],(aH [] S)):=λ S=>asA A (tg s).length s [] rfl (by rw[dG];have:=ahE (s:=s);omega)
 refine iU (S':=[]) (w:=false) m77 rfl rfl ?_;simp+decide only[bz,F77,VB,lk,aB,↓reduceIte,Nat.reduceBEq,Nat.reduceAdd,YL,Xz,YX,h]
end
section
open Go.Proofs
variable{gl:aM}{base:eH}
structure NB (N:aT):Prop where
 k:∀r∈N.R,r.kE.length<=1000
 n:∀x∈N.V,x.no.length<=1000/\x.ed.length<=1000
def ni{α:Type}{l:List α}{k:Int}{x:α}(h:df l k=some x):x∈l:=by obtain⟨i,_,h⟩:=jU h;exact jm h
def VK(A:NB N){x:Oc}(h:x∈N.V):(gO x).length<=1000000:=by have:=A.n x h;unfold gO;rw[dM];omega
def Ng{x:Oc}(h:x.ed.length<=1000)(A:qW N x=some l):l.length<=1000:=by
 unfold qW at A;split at A;.cases A;refine fX ZO ?_;simpa using h
 cases A
def MV(F:NB N){x:Oc}{c:Option Nat}(G:b7 S d k=some (N.c a b c))(D:x.ed.length<=1000)(h:qW N x=some l):VW gl base 92 [.ptr d k 0,.agg x.c] S=some (aD l,S,false):=by
 unfold qW at h;split at h;.rename_i r A;cases h;exact w80 G D A (F.k r (ni A))
 cases h
def zf(N:aT)(e k:Int):Option Bool:=match df N.E k with|some y=>some (decide (y.ev=e))|none=>none
def ahead(N:aT)(e f:Int):Option Bool:=
 match df N.V e,df N.V f with
 |some x,some y=>(match jy (zf N e) (gO y)with
  |some mk=>if e=f then some false else if mk then some true else(match qW N y with|some h=>some ((gO x).any λ k=>fW h k)|none=>none)
  |none=>none)
 |_,_=>none
def amE:cy af 103=true:=by kernel_rfl
def Ab:cy af 27=true:=by kernel_rfl
def NW:cy af 92=true:=by kernel_rfl
def OZ:cy af 91=true:=by kernel_rfl
def aut{r s:Nat}{c:Option Nat}(L:b7 S d k=some (N.c a b c))(G:b7 S p q=some [.ptr d k 0])(J:b7 S r s=some [eI e]){x:Int}{z:Bool}(h:zf N e x=some z):
 VW gl base 103 [eI x,.ptr p q 0,.ptr r s 0] S=some (eB z,S,false):=by
 have Y:(d=S.length)=False:=b6 (by have:=cY L;omega);have F:(p=S.length)=False:=b6 (by have:=cY G;omega);have D:(r=S.length)=False:=b6 (by have:=cY J;omega);unfold zf at h;split at h
 .rename_i y M;cases h;obtain⟨i,e2,hi⟩:=jU M;have A:(N.E.map El.c)[i]? =some y.c:=by rw[bM,hi];rfl
  refine jG atH rfl rfl ?_;simp+decide only[bz,aaC,VB,lk,aB,↓reduceIte,Nat.reduceBEq,Nat.reduceAdd,agt,acU,Y,F,D,L,G,J,aT.c,e2,aY A,El.c]
 .cases h
def aiU(hB:kK base)(hb:NB N){S:List bI}{c:Option Nat}(M:b7 S d k=some (N.c a b c)){e f:Int}{z:Bool}(h:ahead N e f=some z):
 VW gl base 55 [.ptr d k 0,eI e,eI f] S=some (eB z,S,false):=by
 have ak:=cY M;have hd:(d=S.length)=False:=b6 (by omega);have L:(d==S.length)=false:=by simp[hd]
 have D:(S.length==d)=false:=by simp;omega
 unfold ahead at h;split at h
 .rename_i x y hx hy;split at h
  .rename_i mk hm;have Y:=hb.n x (ni hx);have F:=hb.n y (ni hy);have ag:=VK hb (ni hx);have af:=VK hb (ni hy);obtain⟨i,e1,hi⟩:=jU hx;obtain⟨j,e2,hj⟩:=jU hy;have J:(N.V.map Oc.c)[i]? =some x.c:=by rw[bM,hi];rfl
   have G:(N.V.map Oc.c)[j]? =some y.c:=by rw[bM,hj];rfl
   have hc:=Gx (gl:=gl) (base:=base) (g:=103) (cap:=[.ptr S.length 3 0,.ptr S.length 4 0]) (S:=[(3,[.ptr d k 0]),(4,[eI e]),(7,x.c),(8,y.c)]::S) af amE rfl rfl (λ _=>rfl) (λ u z _ hz=>aut (e:=e) (dm (dm (dm M))) (dm (dm (by rw[tA,ao rfl];rfl))) (dm (dm (by rw[tA,ao rfl];rfl))) hz) hm;have hu:∀S,VW gl base 27 [.agg y.c] S=some (aD (gO y),S,false):=λ S=>E8 hB F.1 F.2
   have ab:∀S,VW gl base 27 [.agg x.c] S=some (aD (gO x),S,false):=λ S=>E8 hB Y.1 Y.2
   refine jG m83 rfl rfl ?_;subst e1 e2;simp only[Oc.c]at hc hu ab;by_cases A:(i:Int)=(j:Int);.rw[ao A]at h;cases h;simp+decide only[bz,Lc,VB,lk,aB,↓reduceIte,Nat.reduceBEq,Nat.reduceAdd,Mx,M2,Ma,Ms,hd,L,D,M,aT.c,aY J,aY G,Oc.c,aI Ab,aI zl,hu,hc,dV A]
   rw[aj A]at h;cases mk
   .simp only[rI,qv]at h;split at h
    .rename_i dl ac;cases h;have hs:b7 ([(3,[.ptr d k 0]),(4,[eI i]),(7,[eI x.ru,aD x.no,aD x.ed]),(8,[eI y.ru,aD y.no,aD y.ed])]::S) d k=some (N.c a b c):=dm M;have ad:=MV (gl:=gl) (base:=base) hb hs F.2 ac;have ai:∀S,VW gl base 91 [aD (gO x),aD dl] S=some (eB ((gO x).any λ k=>fW dl k),S,false):=λ S=>NK ag (by have:=Ng F.2 ac;omega)
     simp only[Oc.c]at ad;simp+decide only[bz,Lc,VB,lk,aB,↓reduceIte,Nat.reduceBEq,Nat.reduceAdd,Mx,M2,Ma,Ms,hd,L,D,M,aT.c,aY J,aY G,Oc.c,aI Ab,aI zl,hu,hc,cX A,aI NW,aI OZ,ab,ad,ai]
    cases h
   cases h;simp+decide only[bz,Lc,VB,lk,aB,↓reduceIte,Nat.reduceBEq,Nat.reduceAdd,Mx,M2,Ma,Ms,hd,L,D,M,aT.c,aY J,aY G,Oc.c,aI Ab,aI zl,hu,hc,cX A]
  cases h
 .cases h
end
section
open Go.Proofs
variable{d:Option Tmp}{e:pj}{l:List CE}{ow:Option Nat}{r:VT×aq}{t:Nat}
variable{gl:aM}{base:eH}
section
variable{P:Program}{Z7:cI}{n:Nat}{T U:VT}{st aK:aq}
def pn(P:Program)(gl:aM)(U:VT)(aK:aq)(d:Option Tmp)(c:CO):Option VR:=aN P gl kF U aK d (sn c)
def aen{f:bu}{a:List bu}:pn P gl U aK d (.cl f a)=none:=by
 show Dt P gl kF U aK f a=none;unfold Dt;split
 .split;.rfl
  rfl
 rfl
def Zb{x:bu}:pn P gl U aK d (.mv x)=aN P gl kF U aK d (.mv x):=rfl
def ZC{c x:bu}:pn P gl U aK d (.pk c x y)=aN P gl kF U aK d (.pk c x y):=rfl
def Wp{o:BinOp}{x:bu}:pn P gl U aK d (.bn o t x y)=aN P gl kF U aK d (.bn o t x y):=rfl
def ZZ{x:bu}:pn P gl U aK d (.nl x)=aN P gl kF U aK d (.nl x):=rfl
def afR{x:bu}:pn P gl U aK d (.fa o x)=aN P gl kF U aK d (.fa o x):=rfl
def acQ{b:Option (Nat×Nat)}{x:bu}:pn P gl U aK d (.ia a b x y)=aN P gl kF U aK d (.ia a b x y):=rfl
def abo{tk a:Bool}{x:bu}:pn P gl U aK d (.ld tk a m x)=aN P gl kF U aK d (.ld false a m x):=rfl
def N5(P:Program)(gl:aM)(Z7:cI)(n:Nat)(bef:List (List Nat))(aK:aq)(l:List CE)(i:Nat)(T U:VT)(d:Option Tmp)(r:VR)(u:ae):Option cR->Option (cR×VT×aq)
 |some Z=>mF P gl Z7 n bef aK l (i+1) Z (da n (gZ r.src T) d r.v) (da n U d u) r.st
 |none=>none
def abP{u:ae}:N5 P gl Z7 n bef aK l i T U d ⟨v,src,st,e⟩ u (some Z)=mF P gl Z7 n bef aK l (i+1) Z (da n (gZ src T) d v) (da n U d u) st:=rfl
def EF(P:Program)(gl:aM)(Z7:cI)(n:Nat)(bef:List (List Nat))(aK:aq)(l:List CE)(i:Nat)(Z:cR)(T U:VT)(d:Option Tmp)(r:VR)(q:Option (ae×Bool)):Option (cR×VT×aq):=N5 P gl Z7 n bef aK l i T U d r (zt q) (u9 Z (kT (bef.getD i []) i Z r.e) q)
def adg{q:Option (ae×Bool)}:EF P gl Z7 n bef aK l i Z T U d ⟨v,src,st,e⟩ q=N5 P gl Z7 n bef aK l i T U d ⟨v,src,st,e⟩ (zt q) (u9 Z (kT (bef.getD i []) i Z e) q):=rfl
def Gp(P:Program)(gl:aM)(Z7:cI)(n:Nat)(bef:List (List Nat))(aK:aq)(l:List CE)(i:Nat)(Z:cR)(T U:VT)(d:Option Tmp)(c:CO):Option VR->Option (cR×VT×aq)
 |some r=>EF P gl Z7 n bef aK l i Z T U d r (mg Z.es r.e (pn P gl U aK d c))
 |none=>none
def ae7{c:CO}{h:List Nat}{al an:Bool}{rs:List (Nat×Option (Nat×Nat)×Nat)}:Gp P gl Z7 n bef aK l i ⟨h,es,al,an,rs⟩ T U d c (some ⟨v,src,st,e⟩)=EF P gl Z7 n bef aK l i ⟨h,es,al,an,rs⟩ T U d ⟨v,src,st,e⟩ (mg es e (pn P gl U aK d c)):=rfl
def aaX:mF P gl Z7 n bef aK [] i Z T U st=some (Z,T,st):=rfl
def aed{d:Nat}{c:CO}:mF P gl Z7 n bef aK (O d c::l) i Z T U st=Gp P gl Z7 n bef aK l i Z T U (some d) c (aN P gl Z7 T st (some d) c):=by
 simp only[mF,oT];cases aN P gl Z7 T st (some d) c;.rfl
 rename_i r;simp only[Gp,EF,pn];cases u9 Z (kT (bef.getD i []) i Z r.e) (mg Z.es r.e (aN P gl kF U aK (some d) (sn c)))<;>rfl
def aap{d:Nat}{b:Bool}{c:CO}(h:jK T t=eB b):mF P gl Z7 n bef aK (Q d t b c::l) i Z T U st=Gp P gl Z7 n bef aK l i Z T U (some d) c (aN P gl Z7 T st (some d) c):=by
 simp only[mF,oT,h,Vw];cases aN P gl Z7 T st (some d) c;.rfl
 rename_i r;simp only[Gp,EF,pn];cases u9 Z (kT (bef.getD i []) i Z r.e) (mg Z.es r.e (aN P gl kF U aK (some d) (sn c)))<;>rfl
def XX:mg es .pure (some ⟨v,src,st,.pure⟩)=some (v,false):=rfl
def aeg{b:Option (Nat×Nat)}:mg es (.read b) (some ⟨v,src,st,.read none⟩)=some (v,true):=rfl
def aeX{b:Option (Nat×Nat)}{p:Nat×Nat}(h:Hb es=true):mg es (.read b) (some ⟨v,src,st,.read (some p)⟩)=some (v,false):=by simp only[mg,TC h]
def adP:mg es e none=none:=by cases e<;>rfl
def VF{d:fq}{x:Option VR}:mg es (.eP d) x=none:=rfl
def aab{z:Option cR}:u9 Z z (some (v,true))=some Z:=rfl
def adC{z:Option cR}:u9 Z z (some (v,false))=z:=rfl
def acF{z:Option cR}:u9 Z z none=z:=rfl
def Yq{b:Bool}:zt (some (v,b))=v:=rfl
def aav:zt none=.aL []:=rfl
def PF:∀{l:List CE} {i:Nat} {Z G:cR} {T U:VT} {st:aq} {r D:cR×VT×aq},jP P gl Z7 n bef l i Z T st=some r->mF P gl Z7 n bef aK l i G T U st=some D->r.2=D.2
 |[],i,Z,G,T,U,st,r,D,h,A=>by cases h;cases A;rfl
 |e::l,i,Z,G,T,U,st,r,D,h,A=>by
  simp only[jP]at h;simp only[mF]at A;split at h
  .rename_i F;simp only[F]at A;split at h
   .rename_i x J;simp only[J]at A;split at h
    .split at A;.exact PF h A
     cases A
    cases h
   cases h
  .rename_i F;simp only[F]at A;exact PF h A
  cases h
def abz{x:Option (cR×VT×aq)}(h:tQ bef x=some r):∃Z,x=some (Z,r):=by
 unfold tQ at h;split at h
 .split at h;.cases h;exact⟨_,rfl⟩
  cases h
 cases h
theorem YG(h:A9 bef (mF P gl Z7 n bef st l 0 ⟨[],[],false,false,[]⟩ T T st)=some r):uf P gl Z7 n l bef T st=some r:=by
 rw[<-YM]at h;unfold uf;cases F:tQ bef (jP P gl Z7 n bef l 0 ⟨[],[],false,false,[]⟩ T st);.exact h
 rename_i x;obtain⟨Z,D⟩:=abz F;obtain⟨G,A⟩:=abz h;exact dc some (PF D A)
end
abbrev LP:List (List Nat):=[[],[],[0,1],[0,1,2],[0,1,2,3],[0,1,2,3],[0,1,2,3,5],[0,1,2,3,5,6],[0,1,2,3,5,6,7],[0,1,2,3,5,6,7,8],[0,1,2,3],[0,1,2,3,5,6,7,8,9,10],[0,1,2,3,5,6,7,8,9,10,11],[0,1,2,3,4,5,6,7,8,9,10,11,12],[0,1,2,3],[0,1,2,3],[0,1,2,3,15],[0,1,2,3,15,16],[0,1,2,3,15,16,17],[0,1,2,3,15,16,17,18],[0,1,2,3],[0,1,2,3,15,16,17,18,19,20],[0,1,2,3,15,16,17,18,19,20,21],[0,1,2,3,4,5,6,7,8,9,10,11,12,13,14,15,16,17,18,19,20,21,22],[0,1,2,3,4,5,6,7,8,9,10,11,12,13,14,15,16,17,18,19,20,21,22,23],[0,1,2,3,4,5,6,7,8,9,10,11,12,13,14,15,16,17,18,19,20,21,22,23,24],[0,1,2,3,4,5,6,7,8,9,10,11,12,13,14,15,16,17,18,19,20,21,22,23,24,25]]
def xd(N:aT)(e f:Int):Option Bool:=
 if e=f then some false else
 match df N.V e,df N.V f with
 |some x,some y=>(match qW N x,qW N y with|some a,some b=>some (a.any λ k=>fW b k)|_,_=>none)
 |_,_=>none
def asi(L:NB N){S:List bI}{d:Nat}{c:Option Nat}(M:b7 S d k=some (N.c a b c)){e f:Int}{z:Bool}(h:xd N e f=some z):
 VW gl base 102 [.ptr d k 0,eI e,eI f] S=some (eB z,S,false):=by
 have ai:=cY M;have hd:(d=S.length)=False:=b6 (by omega);unfold xd at h;refine jG ayy rfl rfl ?_;by_cases A:e=f;.rw[ao A]at h;cases h;simp+decide only[bz,Ph,VB,lk,aB,↓reduceIte,Nat.reduceBEq,Nat.reduceAdd,G7,DA,hd,dV A]
 .rw[aj A]at h;split at h
  .rename_i x y J hy;split at h
   .rename_i u v hu hv;cases h;have F:=L.n x (ni J);have D:=L.n y (ni hy);obtain⟨i,e1,hi⟩:=jU J;obtain⟨j,e2,hj⟩:=jU hy;subst e1 e2;have ad:(N.V.map Oc.c)[i]? =some x.c:=by rw[bM,hi];rfl
    have ac:(N.V.map Oc.c)[j]? =some y.c:=by rw[bM,hj];rfl
    have h1:=MV (gl:=gl) (base:=base) (S:=[]::S) L (dm M) F.2 hu;have h2:=MV (gl:=gl) (base:=base) (S:=[]::S) L (dm M) D.2 hv;have ag:∀S,VW gl base 91 [aD u,aD v] S=some (eB (u.any λ k=>fW v k),S,false):=λ S=>NK (by have:=Ng F.2 hu;omega) (by have:=Ng D.2 hv;omega)
    simp only[Oc.c]at h1 h2
    have G:∃T',uf af gl (VW gl base) 33 DA LP [(0,.ptr d k 0),(1,eI i),(2,eI j)] (aH [] S)=some (T',(aH [] S))/\lk T' 6=some (eB (u.any λ k=>fW v k)):=by
     have J:∃x,A9 LP (mF af gl (VW gl base) 33 LP (aH [] S) DA 0 ⟨[],[],false,false,[]⟩ [(0,.ptr d k 0),(1,eI i),(2,eI j)] [(0,.ptr d k 0),(1,eI i),(2,eI j)] (aH [] S))=some x/\(x.2=(aH [] S)/\lk x.1 6=some (eB (u.any λ k=>fW v k))):=by simp+decide only[VB,lk,aB,↓reduceIte,Nat.reduceBEq,Nat.reduceAdd,DA,hd,M,aT.c,aY ad,aY ac,Oc.c,cX A,aI NW,aI OZ,h1,h2,ag,aen,Zb,ZC,Wp,ZZ,afR,acQ,abo,abP,adg,ae7,aaX,aed,aap,XX,aeg,aeX,adP,VF,aab,adC,acF,Yq,aav,lz,aEb]
     obtain⟨⟨T',ab⟩,x1,Y,x3⟩:=J;have Y:ab=_:=Y;subst Y;exact⟨T',YG x1,x3⟩
    obtain⟨T',r1,r2⟩:=G;show mW _ (aJ af gl (VW gl base) 33 (.seq (.ak G7 _) (.seq (.dK DA LP _) .ret)) _ _)=_;have hA:aJ af gl (VW gl base) 33 (.ak G7 (some ([0,1,2],[]))) [(0,.ptr d k 0),(1,eI i),(2,eI j)] (aH [] S)=some (.normal,[(0,.ptr d k 0),(1,eI i),(2,eI j)],(aH [] S)):=by simp+decide only[VB,lk,aB,↓reduceIte,Nat.reduceBEq,Nat.reduceAdd,G7]
    rw[wg];refine(dc (λ z=>mW _ (mY _ z)) hA).trans ?_;rw[BX,wg,Lf,r1];simp+decide only[VB,lk,aB,↓reduceIte,Nat.reduceBEq,Nat.reduceAdd,r2,Ph]
   cases h
  cases h
def before(N:aT)(o:List Int)(f e:Int):Option Bool:=if fW o e then some false else ahead N e f
def ready(N:aT)(l o:List Int)(f:Int):Option Bool:=if fW o f then some false else match jy (before N o f) l with|some b=>some (!b)|none=>none
def agA:cy af 55=true:=by kernel_rfl
def aoP:cy af 179=true:=by kernel_rfl
def ane:cy af 178=true:=by kernel_rfl
def axY(hB:kK base)(hb:NB N){S:List bI}{d M q3:Nat}{c:Option Nat}(L:b7 S d k=some (N.c a b c)){o:List Int}(ho:b7 S p q=some [.sl (o.map λ n=>[eI n]) ow])(Y:o.length<=1000000)(hn:b7 S p2 q2=some [.ptr d k 0]){e f:Int}(hf:b7 S M q3=some [eI f]){z:Bool}(h:before N o f e=some z):
 VW gl base 179 [eI e,.ptr p q 0,.ptr p2 q2 0,.ptr M q3 0] S=some (eB z,S,false):=by
 have hd:(d=S.length)=False:=b6 (by have:=cY L;omega);have F:(p=S.length)=False:=b6 (by have:=cY ho;omega);have D:(p2=S.length)=False:=b6 (by have:=cY hn;omega);have A:(M=S.length)=False:=b6 (by have:=cY hf;omega);have G:∀S,VW gl base 8 [aD o,eI e] S=some (eB (fW o e),S,false):=λ S=>uZ Y
 refine jG azb rfl rfl ?_;unfold before at h;cases J:fW o e;.rw[J,aj (by decide)]at h;have ab:=aiU (gl:=gl) (base:=base) (S:=[]::S) hB hb (dm L) h;simp+decide only[bz,Q7,VB,lk,aB,↓reduceIte,Nat.reduceBEq,Nat.reduceAdd,SL,S5,hd,F,D,A,L,ho,hn,hf,aI mU,G,J,aI agA,ab]
 .rw[J,ao rfl]at h;cases h;simp+decide only[bz,Q7,VB,lk,aB,↓reduceIte,Nat.reduceBEq,Nat.reduceAdd,SL,S5,hd,F,D,A,L,ho,hn,hf,aI mU,G,J]
def as1(hB:kK base)(hb:NB N){S:List bI}{d p1 q1:Nat}{c ad:Option Nat}(hN:b7 S d k=some (N.c a b c)){o l:List Int}(D:b7 S p q=some [.sl (o.map λ n=>[eI n]) ow])(A:o.length<=1000000)(hl:b7 S p1 q1=some [.sl (l.map λ n=>[eI n]) ad])(af:l.length<=1000000)(F:b7 S p2 q2=some [.ptr d k 0]){f:Int}{z:Bool}(h:ready N l o f=some z):
 VW gl base 178 [eI f,.ptr p q 0,.ptr p1 q1 0,.ptr p2 q2 0] S=some (eB z,S,false):=by
 have ge:∀{d:Nat},d<S.length->(d=S.length)=False:=λ h=>b6 (by omega)
 have gb:∀{d:Nat},d<S.length->(d==S.length)=false:=λ h=>by simp;omega
 have hd:=ge (cY hN);have ab:=ge (cY D);have Y:=ge (cY hl);have M:=ge (cY F);have L:=gb (cY D);have J:=gb (cY hl);have G:=gb (cY F);have ac:∀S,VW gl base 8 [aD o,eI f] S=some (eB (fW o f),S,false):=λ S=>uZ A
 refine jG amC rfl rfl ?_;unfold ready at h;cases hh:fW o f
 .rw[hh,aj (by decide)]at h;split at h;.rename_i bb ag;cases h;have hc:=Gx (gl:=gl) (base:=base) (g:=179) (cap:=[.ptr p q 0,.ptr p2 q2 0,.ptr S.length 4 0]) (S:=[(4,[eI f])]::S) af aoP rfl rfl (λ _=>rfl) (λ u z _ hz=>axY hB hb (dm (dm (dm hN))) (dm (dm (dm D))) A (dm (dm (dm F))) (f:=f) (dm (dm (by rw[tA,ao rfl];rfl))) hz) ag;simp+decide only[bz,NO,VB,lk,aB,↓reduceIte,Nat.reduceBEq,Nat.reduceAdd,QH,QQ,hd,ab,Y,M,L,J,G,hN,D,F,hl,aI mU,ac,hh,aI zl,hc]
  cases h
 .rw[hh,ao rfl]at h;cases h;simp+decide only[bz,NO,VB,lk,aB,↓reduceIte,Nat.reduceBEq,Nat.reduceAdd,QH,QQ,hd,ab,Y,M,L,J,G,hN,D,F,hl,aI mU,ac,hh]
end
section
open Go.Proofs
variable{gl:aM}{base:eH}
def vA(N:aT)(l:List Int):Nat->List Int->Option (List Int×Bool)
 |0,_=>none
 |k+1,o=>if o.length<l.length then
  match lg (ready N l o) 0 l with
  |some z=>if z<0 then some ([],false)else(match df l z with|some x=>vA N l k (o++[x])|none=>none)
  |none=>none
  else some (o,true)
def avv(hB:kK base)(hb:NB N){S:List bI}{c:Option Nat}(Y:b7 S d k=some (N.c a b c)){l:List Int}(hl:l.length<=64):∀(m:Nat) (o:List Int) (r:List Int×Bool),o.length<=64->vA N l m o=some r->
 ∃X,aJ af gl (VW gl base) 29 I0 [(2,.ptr S.length 2 0),(6,.ptr S.length 6 0),(7,.ptr S.length 7 0)] (aH [(2,[.ptr d k 0]),(6,[aD l]),(7,[fk o])] S)=some X/\((r=([],false)/\X=(.ret,[(4,.sl [] none),(5,eB false)],(aH [] S)))\/(r.2=true/\X=(.exit 0,[(2,.ptr S.length 2 0),(6,.ptr S.length 6 0),(7,.ptr S.length 7 0),(15,eB false)],(aH [(2,[.ptr d k 0]),(6,[aD l]),(7,[fk r.1])] S)))):=by
 intro m;induction m with
 |zero=>intro o r _ h;cases h
 |succ m ih=>
  intro o r ho h;have hd:(d=S.length)=False:=b6 (by have:=cY Y;omega);simp only[vA]at h;rw[asp];by_cases F:o.length<l.length
  .rw[ao F]at h;have A:((o.length:Int)<(l.length:Int))=True:=dw (by omega);split at h
   .rename_i z G;have M:=XB (gl:=gl) (base:=base) (g:=178) (cap:=[.ptr S.length 7 0,.ptr S.length 6 0,.ptr S.length 2 0]) (l:=l) (S:=[(2,[.ptr d k 0]),(6,[aD l]),(7,[fk o])]::S) (by omega) ane rfl rfl (λ u z _ G=>as1 hB hb (dm (dm Y)) (dm (by rw[tA,ao rfl];rfl)) (by omega) (dm (by rw[tA,ao rfl];rfl)) (by omega) (dm (by rw[tA,ao rfl];rfl)) G) G;by_cases D:z<0;.rw[ao D]at h;cases h;refine⟨_,?_,.inl ⟨rfl,rfl⟩⟩;simp+decide only[GH,VB,lk,aB,↓reduceIte,Nat.reduceBEq,Nat.reduceAdd,LL,Tx,OT,af5,aF,A,aI TP,M,dw D]
    rw[aj D]at h;split at h
    .rename_i x hx;obtain⟨i,e1,hi⟩:=jU hx;subst e1;have J:(l.map λ n=>[eI n])[i]? =some [eI x]:=by rw[bM,hi];rfl
     obtain⟨X,hX,hr⟩:=ih (o++[x]) r (by simp only[dM,cD,dG];omega) h;have L:∀st,iG st 1 (fk o) (.sl [[eI x]] (some 1))=some (fk (o++[x])):=λ st=>by rw[<-zZ];exact lZ (by simp only[aF,cD,dG];omega) rfl
     refine⟨X,?_,hr⟩;simp+decide only[GH,VB,lk,aB,↓reduceIte,Nat.reduceBEq,Nat.reduceAdd,LL,Tx,OT,X0,aF,A,aI TP,M,b6 D,aY J,fD,L,hX]
    cases h
   cases h
  rw[aj F]at h;cases h;have A:((o.length:Int)<(l.length:Int))=False:=b6 (by omega);refine⟨_,?_,.inr ⟨rfl,rfl⟩⟩;simp+decide only[GH,VB,lk,aB,↓reduceIte,Nat.reduceBEq,Nat.reduceAdd,LL,aF,A]
def al9(hB:kK base)(G:nD gl base)(M:NB N){c:Option Nat}(J:b7 S d k=some (N.c a b c)){s:BitVec 64}{r:List Int×Bool}(h:vA N (dH s) m []=some r):
 VW gl base 134 [.ptr d k 0,eW s] S=some (.aL [aD r.1,eB r.2],S,false):=by
 have A:(dH s).length<=64:=Lg;obtain⟨X,Y,F⟩:=avv hB M J A m [] r (by simp) h;have L:(d==S.length)=false:=by have:=cY J;simp;omega
 refine jG aqg rfl rfl ?_;have D:aJ af gl (VW gl base) 29 I0 [(2,.ptr S.length 2 0),(6,.ptr S.length 6 0),(7,.ptr S.length 7 0)] (aH [(2,[.ptr d k 0]),(6,[aD (dH s)]),(7,[.sl [] (some 1)])] S)=some X:=Y;rcases F with⟨rfl,rfl⟩|⟨F,rfl⟩
 .simp+decide only[bz,Uq,VB,lk,aB,↓reduceIte,Nat.reduceBEq,Nat.reduceAdd,Pv,Ss,U0,L,aI Gi,HR G,D];rfl
 .obtain⟨o,z⟩:=r;simp only at F;subst F;simp+decide only[bz,Uq,VB,lk,aB,↓reduceIte,Nat.reduceBEq,Nat.reduceAdd,Pv,Ss,U0,ac3,L,aI Gi,HR G,D]
def ajh:cy af 102=true:=by kernel_rfl
def amn:cy af 133=true:=by kernel_rfl
def aAl:cy af 134=true:=by kernel_rfl
def azu(M:NB N){S:List bI}{c:Option Nat}(J:b7 S d k=some (N.c a b c))(F:b7 S p q=some [.ptr d k 0]){f:Int}(G:b7 S p2 q2=some [eI e]){z:Bool}(h:xd N e f=some z):
 VW gl base 133 [eI f,.ptr p q 0,.ptr p2 q2 0] S=some (eB z,S,false):=by
 have L:(d=S.length)=False:=b6 (by have:=cY J;omega);have D:(p=S.length)=False:=b6 (by have:=cY F;omega);have A:(p2=S.length)=False:=b6 (by have:=cY G;omega);have Y:=asi (gl:=gl) (base:=base) (S:=[]::S) M (dm J) h;refine jG auP rfl rfl ?_;simp+decide only[bz,agv,VB,lk,aB,↓reduceIte,Nat.reduceBEq,Nat.reduceAdd,YC,XD,L,D,A,F,G,aI ajh,Y]
end
section
open Go.Proofs
variable{s:BitVec 64}
variable{gl:aM}{base:eH}
def wk(N:aT)(s:BitVec 64)(e:Int):Option Bool:=match df N.C e with
 |some c=>if c&&& ~~~s=0#64 then jy (xd N e) (dH s)else some true
 |none=>none
def ux(N:aT)(s:BitVec 64):Option Bool:=match jy (wk N s) (dH s)with
 |some true=>some false
 |some false=>(match vA N (dH s) 66 []with|some r=>some r.2|none=>none)
 |none=>none
def asH{w:ae}:sd 0 (.aL [v,w])=some (bD v):=rfl
def awP{w:ae}:sd 1 (.aL [v,w])=some (bD w):=rfl
def c76(hB:kK base)(hT:nD gl base)(hb:NB N){S:List bI}{c:Option Nat}(Y:b7 S d k=some (N.c a b c)){z:Bool}(h:ux N s=some z):
 bz af gl (VW gl base) L9 [.ptr d k 0,eW s] S=some (eB z,S,false):=by
 have ag:(dH s).length<=64:=Lg;have ai:=cY Y;have hd:(d=S.length)=False:=b6 (by omega);have gb:(d==S.length)=false:=by simp;omega
 have M:(S.length==d)=false:=by simp;omega
 have hL:=tP (P:=af) (gl:=gl) (Z7:=VW gl base) (n:=41) (len:=(dH s).length) (C:=HD) (B:=AO) (f:=lL (wk N s) (λ _=>(.ret,[(4,eB false)],(aH [] S))) (dH s))
  (TT:=λ i _=>[(1,eW s),(2,.ptr S.length 2 0),(5,aD (dH s)),(12,aD (dH s)),(13,eI (dH s).length),(14,eI i)]) (ST:=λ _=>(aH [(2,[.ptr d k 0])] S))
  (X:=λ _=>(.exit 0,[(1,eW s),(2,.ptr S.length 2 0),(5,aD (dH s)),(12,aD (dH s)),(13,eI (dH s).length),(14,eI (dH s).length),(15,eB false)],(aH [(2,[.ptr d k 0])] S))) ?_ ?_ ?_ (dH s).length 0 ()
 .unfold ux at h;split at h
  .rename_i J;cases h;obtain⟨z,hz,F⟩:=vT (i:=0) J;rcases xe (l:=dH s) (R:=λ _=>(.ret,[(4,eB false)],(aH [] S))) (dH s).length 0 z (by omega) hz with⟨rfl,hh⟩|⟨j,rfl,hh⟩
   .cases F
   have L:aJ af gl (VW gl base) 41 HD [(1,eW s),(2,.ptr S.length 2 0),(5,aD (dH s)),(12,aD (dH s)),(13,eI (dH s).length),(14,eI 0)] (aH [(2,[.ptr d k 0])] S)=_:=hL _ (iX _) hh;simp+decide only[bz,L9,VB,lk,aB,↓reduceIte,Nat.reduceBEq,Nat.reduceAdd,US,Se,R6,gb,aI Gi,HR hT,L,aF]
  .rename_i J;split at h
   .rename_i r hr;cases h;obtain⟨z,hz,F⟩:=vT (i:=0) J;have ab:=al9 (gl:=gl) (base:=base) (S:=[(2,[.ptr d k 0])]::S) hB hT hb (dm Y) hr;rcases xe (l:=dH s) (R:=λ _=>(.ret,[(4,eB false)],(aH [] S))) (dH s).length 0 z (by omega) hz with⟨rfl,hh⟩|⟨j,rfl,hh⟩
    .have L:aJ af gl (VW gl base) 41 HD [(1,eW s),(2,.ptr S.length 2 0),(5,aD (dH s)),(12,aD (dH s)),(13,eI (dH s).length),(14,eI 0)] (aH [(2,[.ptr d k 0])] S)=_:=hL _ (iX _) hh;simp+decide only[bz,L9,VB,lk,aB,↓reduceIte,Nat.reduceBEq,Nat.reduceAdd,US,Se,R6,WD,Zj,aF,gb,aI Gi,HR hT,L,aI aAl,ab,asH,awP]
    exact absurd F (by simp)
   cases h
  cases h
 .intro i s;rw[auq];simp+decide only[VB,lk,aB,↓reduceIte,Nat.reduceBEq,Nat.reduceAdd]
 .intro i u hi;have A:((i:Int)<((dH s).length:Int))=True:=dw (by omega);have hx:(dH s)[i]? =some (dH s)[i]:=cW hi;have he:((dH s).map λ n=>[eI n])[i]? =some [eI (dH s)[i]]:=by rw[bM,hx];rfl
  simp only[lL,hx];cases h1:wk N s (dH s)[i];.trivial
  rename_i ad;unfold wk at h1;split at h1
  .rename_i cc ac;obtain⟨j,e1,hj⟩:=jU ac;have G:(N.C.map λ x=>[eW x])[j]? =some [eW cc]:=by rw[bM,hj];rfl
   split at h1
   .rename_i h0;have hc:=Gx (gl:=gl) (base:=base) (g:=133) (cap:=[.ptr S.length 2 0,.ptr S.length 7 0]) (l:=dH s) (S:=[(2,[.ptr d k 0]),(7,[eI (dH s)[i]])]::S) (by omega) amn rfl rfl (λ _=>rfl) (λ u z _ hz=>azu hb (dm (dm (dm Y))) (dm (dm (by rw[tA,ao rfl];rfl))) (dm (dm (by rw[tA,ao rfl];rfl))) hz) h1;have D:(((cc&&& ~~~s).toNat:Int)=0)=True:=dw (by rw[h0];rfl);rw[e1]at hc he;cases ad;.simp+decide only[AO,VB,lk,aB,↓reduceIte,Nat.reduceBEq,Nat.reduceAdd,Gm,Mc,L6,Xy,A,aY he,hd,gb,M,Y,aT.c,aY G,UP,D,aI zl,hc,gW (show i<=4611686018427387904 by omega)]
    refine⟨?_,λ h=>by cases h⟩;simp+decide only[AO,VB,lk,aB,↓reduceIte,Nat.reduceBEq,Nat.reduceAdd,Gm,Mc,L6,Oy,A,aY he,hd,gb,M,Y,aT.c,aY G,UP,D,aI zl,hc]
   rename_i h0;have D:(((cc&&& ~~~s).toNat:Int)=0)=False:=b6 (λ e=>h0 (Ep (by show _=0;omega)));rw[e1]at he;cases h1;refine⟨?_,λ h=>by cases h⟩;simp+decide only[AO,VB,lk,aB,↓reduceIte,Nat.reduceBEq,Nat.reduceAdd,Gm,Mc,L6,Oy,A,aY he,hd,gb,M,Y,aT.c,aY G,UP,D]
  cases h1
 .intro u;refine⟨?_,λ h=>by cases h⟩;simp+decide only[AO,VB,lk,aB,↓reduceIte,Nat.reduceBEq,Nat.reduceAdd,Gm,jT]
def w76(G:kK base)(D:nD gl base)(A:NB N){c:Option Nat}(F:b7 S d k=some (N.c a b c)){z:Bool}(h:ux N s=some z):VW gl base 88 [.ptr d k 0,eW s] S=some (eB z,S,false):=jG m76 rfl rfl (c76 G D A F h)
end
section
open Go.Proofs
variable{gl:aM}{base:eH}
def xT(N:aT)(x:Oc)(e:Int):Option Bool:=match df N.V e with
 |some y=>(match qW N y with|some h=>some (h.any λ k=>fW (gO x) k)|none=>none)
 |none=>none
def rF(N:aT)(x:Oc):Option Bool:=match sq N (gO x)with
 |some s=>(match ux N s with
  |some true=>(match jy (xT N x) (dH s)with|some b=>some (!b)|none=>none)
  |some false=>some false
  |none=>none)
 |none=>none
def q78:cy af 90=true:=by kernel_rfl
def Sj:cy af 87=true:=by kernel_rfl
def q76:cy af 88=true:=by kernel_rfl
def w78(hB:kK base)(hb:NB N){S:List bI}{c:Option Nat}(hN:b7 S d k=some (N.c a b c))(hn:b7 S p q=some [.ptr d k 0]){x:Oc}(J:b7 S p2 q2=some x.c)(F:x.no.length<=1000)(G:x.ed.length<=1000){z:Bool}(h:xT N x e=some z):
 VW gl base 90 [eI e,.ptr p q 0,.ptr p2 q2 0] S=some (eB z,S,false):=by
 have hd:(d=S.length)=False:=b6 (by have:=cY hN;omega);have ab:(p=S.length)=False:=b6 (by have:=cY hn;omega);have Y:(p2=S.length)=False:=b6 (by have:=cY J;omega);unfold xT at h;split at h
 .rename_i y hy;split at h
  .rename_i dl D;cases h;have A:=hb.n y (ni hy);obtain⟨i,e1,hi⟩:=jU hy;subst e1;have M:(N.V.map Oc.c)[i]? =some y.c:=by rw[bM,hi];rfl
   have h1:=MV (gl:=gl) (base:=base) (S:=[]::S) hb (dm hN) A.2 D;have h2:∀S,VW gl base 27 [.agg x.c] S=some (aD (gO x),S,false):=λ S=>E8 hB F G
   have L:(gO x).length<=1000000:=by unfold gO;rw[dM];omega
   have ac:∀S,VW gl base 91 [aD dl,aD (gO x)] S=some (eB (dl.any λ k=>fW (gO x) k),S,false):=λ S=>NK (by have:=Ng A.2 D;omega) L
   simp only[Oc.c]at h1 h2 J;refine jG m78 rfl rfl ?_;simp+decide only[bz,YT,VB,lk,aB,↓reduceIte,Nat.reduceBEq,Nat.reduceAdd,WN,adF,hd,ab,Y,hN,hn,J,aT.c,aY M,Oc.c,aI NW,aI Ab,aI OZ,h1,h2,ac]
  cases h
 .cases h
def w36(hB:kK base)(hT:nD gl base)(hb:NB N){S:List bI}{c:Option Nat}(M:b7 S d k=some (N.c a b c)){x:Oc}(G:x.no.length<=1000)(J:x.ed.length<=1000){z:Bool}(h:rF N x=some z):
 VW gl base 45 [.ptr d k 0,.agg x.c] S=some (eB z,S,false):=by
 have ad:=cY M;have hd:(d=S.length)=False:=b6 (by omega);have gb:(d==S.length)=false:=by simp;omega
 have ab:(gO x).length<=1000000:=by unfold gO;rw[dM];omega
 have A:∀S,VW gl base 27 [.agg x.c] S=some (aD (gO x),S,false):=λ S=>E8 hB G J
 unfold rF at h;split at h
 .rename_i s hs;have D:=w74 (gl:=gl) (base:=base) (S:=[(2,[.ptr d k 0]),(3,x.c)]::S) (dm M) ab hs;have F:∀{z},ux N s=some z->_:=λ {z} Y=>w76 (gl:=gl) (base:=base) (S:=[(2,[.ptr d k 0]),(3,x.c)]::S) hB hT hb (dm M) Y
  refine jG m36 rfl rfl ?_;split at h
  .rename_i hc;have xM:=F hc;split at h;.rename_i bb ac;cases h;have L:=Gx (gl:=gl) (base:=base) (g:=90) (cap:=[.ptr S.length 2 0,.ptr S.length 3 0]) (l:=dH s) (S:=[(2,[.ptr d k 0]),(3,x.c)]::S) (by have:=Lg (s:=s);omega) q78 rfl rfl (λ _=>rfl) (λ u z _ Y=>w78 hB hb (dm (dm (dm M))) (dm (dm (by rw[tA,ao rfl];rfl))) (x:=x) (dm (dm (by rw[tA,ao rfl];rfl))) G J Y) ac;simp only[Oc.c]at D A xM L;simp+decide only[bz,Pa,VB,lk,aB,↓reduceIte,Nat.reduceBEq,Nat.reduceAdd,PM,S6,UZ,NX,aaF,gb,Oc.c,aI Ab,aI Sj,aI q76,aI Gi,aI zl,A,D,xM,HR hT,L]
   cases h
  .rename_i hc;have xM:=F hc;cases h;simp only[Oc.c]at D A xM;simp+decide only[bz,Pa,VB,lk,aB,↓reduceIte,Nat.reduceBEq,Nat.reduceAdd,PM,S6,UZ,NX,gb,Oc.c,aI Ab,aI Sj,aI q76,A,D,xM]
  cases h
 .cases h
end
section
open Go.Proofs
variable{a b:List Int}
variable{gl:aM}{base:eH}
def YV:∀{a b:List Int},a.length=b.length->((a.zip b).any λ p=>decide (¬p.1=p.2))= !decide (a=b)
 |[],[],_=>rfl
 |x::a,y::b,h=>by
  simp only[cD,Nat.succ.injEq]at h;simp only[List.zip_cons_cons,xA,YV h];by_cases e:x=y;.subst e;simp
  simp[e]
 |[],_::_,h=>by simp at h
 |_::_,[],h=>by simp at h
def OE{Z7:cI}(ha:a.length<=1000000):bz af gl Z7 E9 [aD a,aD b] S=some (eB (decide (a=b)),S,false):=by
 by_cases hl:a.length=b.length
 .have A:((a.length:Int)=(b.length:Int))=True:=dw (by omega);have hz:(a.zip b).length=a.length:=by rw[List.length_zip];omega
  have hL:=tP (P:=af) (gl:=gl) (Z7:=Z7) (n:=26) (len:=a.length) (C:=Fz) (B:=Di) (f:=lL (λ p=>some (decide (¬p.1=p.2))) (λ _=>(.ret,[(4,eB false)],(aH [] S))) (a.zip b))
   (TT:=λ i _=>[(0,aD a),(1,aD b),(12,eI a.length),(13,eI i)]) (ST:=λ _=>(aH [] S))
   (X:=λ _=>(.exit 0,[(0,aD a),(1,aD b),(12,eI a.length),(13,eI a.length),(14,eB false)],(aH [] S))) ?_ ?_ ?_ a.length 0 ()
  .obtain⟨z,Y,M⟩:=vT (i:=0) (Gr (p:=λ p:Int×Int=>decide (¬p.1=p.2)) (l:=a.zip b));rw[YV hl]at M;rcases xe (l:=a.zip b) (R:=λ _=>(.ret,[(4,eB false)],(aH [] S))) a.length 0 z (by omega) Y with⟨rfl,hh⟩|⟨j,rfl,hh⟩
   .have D:aJ af gl Z7 26 Fz [(0,aD a),(1,aD b),(12,eI a.length),(13,eI 0)] (aH [] S)=_:=hL _ (iX _) hh;have J:decide (a=b)=true:=by simpa using M
    simp+decide only[bz,E9,VB,lk,aB,↓reduceIte,Nat.reduceBEq,Nat.reduceAdd,Je,M6,Ml,Um,NM,aF,A,D,J]
   have D:aJ af gl Z7 26 Fz [(0,aD a),(1,aD b),(12,eI a.length),(13,eI 0)] (aH [] S)=_:=hL _ (iX _) hh;have J:decide (a=b)=false:=by have:decide ((j:Int)>=0)=true:=dV (by omega);rw[this]at M;simpa using M.symm
   simp+decide only[bz,E9,VB,lk,aB,↓reduceIte,Nat.reduceBEq,Nat.reduceAdd,Je,M6,Ml,Um,NM,aF,A,D,J]
  .intro i s;rw[arZ];simp+decide only[VB,lk,aB,↓reduceIte,Nat.reduceBEq,Nat.reduceAdd]
  .intro i s hi;have F:((i:Int)<(a.length:Int))=True:=dw (by omega);have ab:i<b.length:=by omega
   have he:(a.map λ n=>[eI n])[i]? =some [eI a[i]]:=by rw[bM,cW hi];rfl
   have G:(b.map λ n=>[eI n])[i]? =some [eI b[i]]:=by rw[bM,cW ab];rfl
   have hx:(a.zip b)[i]? =some (a[i],b[i]):=by rw[cW (by omega),List.getElem_zip]
   simp only[lL,hx];by_cases L:a[i]=b[i];.simp only[L,not_true_eq_false,aiu];rw[L]at he;simp+decide only[Di,VB,lk,aB,↓reduceIte,Nat.reduceBEq,Nat.reduceAdd,MN,PG,Rj,Rm,U6,F,aY he,aY G,gW (show i<=4611686018427387904 by omega)]
   simp only[L,not_false_eq_true,Ns];refine⟨?_,λ h=>by cases h⟩;simp+decide only[Di,VB,lk,aB,↓reduceIte,Nat.reduceBEq,Nat.reduceAdd,MN,PG,Rj,Rm,U6,F,aY he,aY G,cX L]
  intro s;refine⟨?_,λ h=>by cases h⟩;simp+decide only[Di,VB,lk,aB,↓reduceIte,Nat.reduceBEq,Nat.reduceAdd,MN,jT]
 have A:((a.length:Int)=(b.length:Int))=False:=b6 (by omega);have J:decide (a=b)=false:=cX (λ e=>hl (by rw[e]));simp+decide only[bz,E9,VB,lk,aB,↓reduceIte,Nat.reduceBEq,Nat.reduceAdd,Je,M6,Ml,aF,A,J]
def w19(h:a.length<=1000000):VW gl base 20 [aD a,aD b] S=some (eB (decide (a=b)),S,false):=iU m19 rfl rfl (OE h)
def xj(x y:Oc):Bool:=decide (x.ru=y.ru)&&(decide (x.no=y.no)&&decide (x.ed=y.ed))
def q19:cy af 20=true:=by kernel_rfl
def q73:cy af 86=true:=by kernel_rfl
def alu:cy af 132=true:=by kernel_rfl
def q72:cy af 85=true:=by kernel_rfl
def w73{x y:Oc}(h:b7 S p q=some x.c)(L:x.no.length<=1000)(M:x.ed.length<=1000):VW gl base 86 [.agg y.c,.ptr p q 0] S=some (eB (xj x y),S,false):=by
 have D:(p=S.length)=False:=b6 (by have:=cY h;omega);have F:(p==S.length)=false:=by have:=cY h;simp;omega
 have A:∀S,VW gl base 20 [aD x.no,aD y.no] S=some (eB (decide (x.no=y.no)),S,false):=λ S=>w19 (by omega)
 have Y:∀S,VW gl base 20 [aD x.ed,aD y.ed] S=some (eB (decide (x.ed=y.ed)),S,false):=λ S=>w19 (by omega)
 refine jG m73 rfl rfl ?_;unfold xj;simp only[Oc.c]at h;by_cases G:x.ru=y.ru
 .by_cases J:x.no=y.no;.rw[dV J]at A⊢;simp+decide only[bz,Mz,VB,lk,aB,↓reduceIte,Nat.reduceBEq,Nat.reduceAdd,Lh,KM,D,F,h,Oc.c,dV G,aI q19,A,Y]
  rw[cX J]at A⊢;simp+decide only[bz,Mz,VB,lk,aB,↓reduceIte,Nat.reduceBEq,Nat.reduceAdd,Lh,KM,D,F,h,Oc.c,dV G,aI q19,A]
 simp+decide only[bz,Mz,VB,lk,aB,↓reduceIte,Nat.reduceBEq,Nat.reduceAdd,Lh,KM,D,F,h,Oc.c,cX G]
end
section
open Go.Proofs
variable{g:Nat}{p:Oc->Option Bool}{y:El}
variable{gl:aM}{base:eH}
abbrev yb(l:List Oc):ae:=.sl (l.map Oc.c) none
def akz{Z7:cI}{l:List Oc}(hl:l.length<=1000000)(L:cy af g=true)(M:cap.any ae.fY=false)
 (hp:∀x b,x∈l->p x=some b->Z7 g (.agg x.c::cap.map (gQ ([]::S))) ([]::S)=some (eB b,[]::S,false)) {z:Int} (h:lg p 0 l=some z):
 bz af gl Z7 It [yb l,.fn g cap] S=some (eI z,S,false):=by
 have hL:=tP (P:=af) (gl:=gl) (Z7:=Z7) (n:=19) (len:=l.length) (C:=HO) (B:=B4) (f:=lL p (λ i=>(.ret,[(4,eI i)],(aH [] S))) l)
  (TT:=λ i _=>[(0,yb l),(1,.fn g cap),(7,eI l.length),(8,eI i)]) (ST:=λ _=>(aH [] S))
  (X:=λ _=>(.exit 0,[(0,yb l),(1,.fn g cap),(7,eI l.length),(8,eI l.length),(9,eB false)],(aH [] S))) ?_ ?_ ?_ l.length 0 ()
 .have F:=xe (l:=l) (R:=λ i=>(.ret,[(4,eI i)],(aH [] S))) l.length 0 z (by omega) h;rcases F with⟨rfl,F⟩|⟨j,rfl,F⟩
  .have A:aJ af gl Z7 19 HO [(0,yb l),(1,.fn g cap),(7,eI l.length),(8,eI 0)] (aH [] S)=_:=hL _ (by omega) F;simp+decide only[bz,It,VB,lk,aB,↓reduceIte,Nat.reduceBEq,Nat.reduceAdd,Uf,UC,Ql,aF,A]
  have A:aJ af gl Z7 19 HO [(0,yb l),(1,.fn g cap),(7,eI l.length),(8,eI 0)] (aH [] S)=_:=hL _ (by omega) F;simp+decide only[bz,It,VB,lk,aB,↓reduceIte,Nat.reduceBEq,Nat.reduceAdd,Uf,UC,Ql,aF,A]
 .intro i s;rw[ao7];simp+decide only[VB,lk,aB,↓reduceIte,Nat.reduceBEq,Nat.reduceAdd]
 .intro i s hi;have D:((i:Int)<(l.length:Int))=True:=dw (by omega);have J:l[i]? =some l[i]:=cW hi;have Y:(l.map Oc.c)[i]? =some l[i].c:=by rw[bM,J];rfl
  simp only[lL,J];cases h1:p l[i];.trivial
  rename_i b;have G:=hp _ b (xC hi) h1;simp only[Oc.c]at G;cases b;.simp+decide only[B4,VB,lk,aB,↓reduceIte,Nat.reduceBEq,Nat.reduceAdd,KF,TN,Pf,UX,P6,D,aY Y,Oc.c,gW (show i<=4611686018427387904 by omega),aI L,M,G]
  refine⟨?_,λ h=>by cases h⟩;simp+decide only[B4,VB,lk,aB,↓reduceIte,Nat.reduceBEq,Nat.reduceAdd,KF,TN,Pf,UX,P6,D,aY Y,Oc.c,aI L,M,G]
 .intro s;refine⟨?_,λ h=>by cases h⟩;simp+decide only[B4,VB,lk,aB,↓reduceIte,Nat.reduceBEq,Nat.reduceAdd,KF,jT]
def w72{l:List Oc}(hl:l.length<=1000000)(L:cy af g=true)(Y:cap.any ae.fY=false)(D:(ae.fn g cap).open=true)(J:∀S,cap.map (gQ S)=cap)
 (M:∀x b,x∈l->p x=some b->VW gl base g (.agg x.c::cap) ([]::[]::S)=some (eB b,[]::[]::S,false)) {b:Bool} (h:jy p l=some b):
 VW gl base 85 [yb l,.fn g cap] S=some (eB b,S,false):=by
 obtain⟨z,F,A⟩:=vT (i:=0) h;have hc:VW gl base 132 [yb l,.fn g cap] ([]::S)=some (eI z,[]::S,false):=jG at7 rfl (by simp only[xA,D,Em,rM]) (akz hl L Y (by intro x b G A;rw[J];exact M x b G A) F);refine jG m72 rfl (by simp only[xA,D,Em,rM]) ?_;simp+decide only[bz,F72,VB,lk,aB,↓reduceIte,Nat.reduceBEq,Nat.reduceAdd,aeY,W5,aI alu,hc,A]
def sO(N:aT)(x:Oc):Bool:=N.V.any (xj x)
def w35{S:List bI}{c:Option Nat}(F:b7 S d k=some (N.c a b c))(L:N.V.length<=1000000){x:Oc}(h:x.no.length<=1000)(A:x.ed.length<=1000):
 VW gl base 44 [.ptr d k 0,.agg x.c] S=some (eB (sO N x),S,false):=by
 have J:=cY F;have M:(d=S.length)=False:=b6 (by omega);have Y:(d==S.length)=false:=by simp;omega
 have D:=w72 (gl:=gl) (base:=base) (g:=86) (cap:=[.ptr S.length 3 0]) (l:=N.V) (S:=[(3,x.c)]::S) L q73 rfl rfl (λ _=>rfl) (p:=λ y=>some (xj x y)) (λ y z _ G=>by cases G;exact w73 (dm (dm (by rw[tA,ao rfl];rfl))) h A) Gr;refine jG m35 rfl rfl ?_;simp only[Oc.c]at D;unfold sO;simp+decide only[bz,F35,VB,lk,aB,↓reduceIte,Nat.reduceBEq,Nat.reduceAdd,acj,aho,M,Y,F,aT.c,Oc.c,aI q72,D]
def w9(y:El)(kind:Int):Bool:= !y.ed&&decide (y.ty=kind)
def w69{kind:Int}:VW gl base 83 [.agg y.c,eI kind] S=some (eB (w9 y kind),S,false):=by refine iU (S':=[]) (w:=false) m69 rfl rfl ?_;unfold w9;cases h:y.ed<;>simp+decide only[bz,F69,VB,lk,aB,↓reduceIte,Nat.reduceBEq,Nat.reduceAdd,aeu,acV,El.c,h]
def wb(y:El)(x:Ed)(h:List Int):Option Bool:=
 if y.ed=true then
  if y.ty=x.ty then
   (match df h x.fr with
   |some u=>if y.fr=u then(match df h x.to with|some v=>some (decide (y.to=v))|none=>none)else some false
   |none=>none)
  else some false
 else some false
def Vb{x:Ed}{z:Bool}(h:wb y x l=some z):VW gl base 84 [.agg y.c,.agg x.c,aD l] S=some (eB z,S,false):=by
 refine iU (S':=[]) (w:=false) m71 rfl rfl ?_;unfold wb at h;split at h
 .rename_i D;split at h
  .rename_i F;split at h
   .rename_i u M;obtain⟨i,J,hi⟩:=jU M;have A:(l.map λ n=>[eI n])[i]? =some [eI u]:=by rw[bM,hi];rfl
    split at h
    .rename_i h3;split at h
     .rename_i v L;obtain⟨j,e2,Y⟩:=jU L;have G:(l.map λ n=>[eI n])[j]? =some [eI v]:=by rw[bM,Y];rfl
      cases h;simp+decide only[bz,Gf,VB,lk,aB,↓reduceIte,Nat.reduceBEq,Nat.reduceAdd,GR,Hg,El.c,Ed.c,D,dw F,J,aY A,dw h3,e2,aY G]
     cases h
    rename_i h3;cases h;simp+decide only[bz,Gf,VB,lk,aB,↓reduceIte,Nat.reduceBEq,Nat.reduceAdd,GR,Hg,El.c,Ed.c,D,dw F,J,aY A,b6 h3]
   cases h
  rename_i F;cases h;simp+decide only[bz,Gf,VB,lk,aB,↓reduceIte,Nat.reduceBEq,Nat.reduceAdd,GR,Hg,El.c,Ed.c,D,b6 F]
 rename_i D;cases h;simp+decide only[bz,Gf,VB,lk,aB,↓reduceIte,Nat.reduceBEq,Nat.reduceAdd,GR,Hg,El.c,Ed.c,D]
end
section
open Go.Proofs
variable{gl:aM}{base:eH}
def qD(N:aT)(lN:List Int)(x:Oc)(count:Int)(p:Int×Nat):Option Bool:=
 if p.1<0 then some true else if p.1>=count then some true else
 match df N.E p.1,lN[p.2]?with
 |some y,some kind=>if w9 y kind then some (fW (x.no.take p.2) p.1)else some true
 |_,_=>none
def rk(N:aT)(lE:List Ed)(x:Oc)(count:Int)(p:Int×Nat):Option Bool:=
 if p.1<0 then some true else if p.1>=count then some true else
 match df N.E p.1,lE[p.2]?with
 |some y,some e=>(match wb y e x.no with|some true=>some (fW (x.ed.take p.2) p.1)|some false=>some true|none=>none)
 |_,_=>none
def fits(N:aT)(x:Oc)(count:Int):Option Bool:=
 if x.ru<0 then some false else if x.ru>=N.R.length then some false else
 match df N.R x.ru with
 |some r=>if x.no.length=r.lN.length/\x.ed.length=r.lE.length then
  (match jy (qD N r.lN x count) x.no.zipIdx with
  |some true=>some false
  |some false=>(match jy (rk N r.lE x count) x.ed.zipIdx with|some b=>some (!b)|none=>none)
  |none=>none)
  else some false
 |none=>none
def Dm:cy af 83=true:=by kernel_rfl
def Dl:cy af 84=true:=by kernel_rfl
def W8{c:Option Nat}(hN:b7 S d k=some (N.c a b c)){x:Oc}(ai:x.no.length<=1000){lN:List Int}{lE:List Ed}{z:Bool}(h:jy (qD N lN x count) x.no.zipIdx=some z):
 aJ af gl (VW gl base) 135 Lt [(0,.ptr d k 0),(2,eI count),(4,.ptr S.length 4 0),(7,.ptr S.length 7 0),(52,aD x.no),(53,eI x.no.length),(54,eI 0)] (aH [(4,x.c),(7,[aD lN,dY lE])] S)=some (if z then(.ret,[(6,eB false)],(aH [] S))else(.exit 0,[(0,.ptr d k 0),(2,eI count),(4,.ptr S.length 4 0),(7,.ptr S.length 7 0),(52,aD x.no),(53,eI x.no.length),(54,eI x.no.length),(55,eB false)],(aH [(4,x.c),(7,[aD lN,dY lE])] S))):=by
 have aj:=cY hN;have hd:(d=S.length)=False:=b6 (by omega);have gb:(d==S.length)=false:=by simp;omega
 have F:(S.length==d)=false:=by simp;omega
 have ag:x.no.zipIdx.length=x.no.length:=rP
 have hL:=tP (P:=af) (gl:=gl) (Z7:=VW gl base) (n:=135) (len:=x.no.length) (C:=Lt) (B:=wa) (f:=lL (qD N lN x count) (λ _=>(.ret,[(6,eB false)],(aH [] S))) x.no.zipIdx)
  (TT:=λ i _=>[(0,.ptr d k 0),(2,eI count),(4,.ptr S.length 4 0),(7,.ptr S.length 7 0),(52,aD x.no),(53,eI x.no.length),(54,eI i)]) (ST:=λ _=>(aH [(4,x.c),(7,[aD lN,dY lE])] S))
  (X:=λ _=>(.exit 0,[(0,.ptr d k 0),(2,eI count),(4,.ptr S.length 4 0),(7,.ptr S.length 7 0),(52,aD x.no),(53,eI x.no.length),(54,eI x.no.length),(55,eB false)],(aH [(4,x.c),(7,[aD lN,dY lE])] S))) ?_ ?_ ?_ x.no.length 0 ()
 .obtain⟨w,hw,hb⟩:=vT (i:=0) h;rcases xe (l:=x.no.zipIdx) (R:=λ _=>(.ret,[(6,eB false)],(aH [] S))) x.no.length 0 w (by omega) hw with⟨rfl,J⟩|⟨j,rfl,J⟩
  .have hz:z=false:=hb.symm;subst hz;exact hL _ (iX _) J
  have hz:z=true:=by rw[<-hb];exact dV (by omega)
  subst hz;exact hL _ (iX _) J
 .intro i s;rw[aye];simp+decide only[VB,lk,aB,↓reduceIte,Nat.reduceBEq,Nat.reduceAdd]
 .intro i s hi;have A:((i:Int)<(x.no.length:Int))=True:=dw (by omega);have ac:x.no[i]? =some x.no[i]:=cW hi;have hx:x.no.zipIdx[i]? =some (x.no[i],i):=by rw[Eu,ac];simp
  have he:(x.no.map λ n=>[eI n])[i]? =some [eI x.no[i]]:=by rw[bM,ac];rfl
  simp only[lL,hx];cases D:qD N lN x count (x.no[i],i);.trivial
  rename_i ak;unfold qD at D;simp only at D;split at D;.rename_i L;cases D;refine⟨?_,λ h=>by cases h⟩;simp+decide only[wa,VB,lk,aB,↓reduceIte,Nat.reduceBEq,Nat.reduceAdd,z8,BL,B9,G4,A,Oc.c,aY he,hd,gb,F,dw L]
  rename_i L;split at D;.rename_i h3;cases D;refine⟨?_,λ h=>by cases h⟩;simp+decide only[wa,VB,lk,aB,↓reduceIte,Nat.reduceBEq,Nat.reduceAdd,z8,BL,B9,G4,A,Oc.c,aY he,hd,gb,F,b6 L,dw h3]
  rename_i h3;split at D
  .rename_i y kind hy hk;obtain⟨j,e1,hj⟩:=jU hy;have Y:(N.E.map El.c)[j]? =some y.c:=by rw[bM,hj];rfl
   have M:(lN.map λ n=>[eI n])[i]? =some [eI kind]:=by rw[bM,hk];rfl
   have G:∀S,VW gl base 83 [.agg y.c,eI kind] S=some (eB (w9 y kind),S,false):=λ S=>w69
   simp only[El.c]at G;split at D
   .rename_i h4;cases D;have ad:nf (some 1) false (.sl (x.no.map λ n=>[eI n]) none) none (some (.sc (.int .i64 (i:Int))))=some (aD (x.no.take i)):=by rw[EU (by rw[aF];omega) agH];simp only[aD,BG]
    have ab:∀S,VW gl base 8 [aD (x.no.take i),eI x.no[i]] S=some (eB (fW (x.no.take i) x.no[i]),S,false):=λ S=>uZ (by rw[n8];omega)
    rw[e1]at ab he;rw[e1]at L h3;cases J:fW (x.no.take i) x.no[i];.rw[e1]at J;simp+decide only[wa,VB,lk,aB,↓reduceIte,Nat.reduceBEq,Nat.reduceAdd,z8,BL,B9,aau,A,Oc.c,aY he,hd,gb,F,b6 L,b6 h3,hN,aT.c,aY Y,El.c,aY M,aI Dm,G,h4,ad,aI mU,ab,J,gW (show i<=4611686018427387904 by omega)]
    rw[e1]at J;refine⟨?_,λ h=>by cases h⟩;simp+decide only[wa,VB,lk,aB,↓reduceIte,Nat.reduceBEq,Nat.reduceAdd,z8,BL,B9,G4,A,Oc.c,aY he,hd,gb,F,b6 L,b6 h3,hN,aT.c,aY Y,El.c,aY M,aI Dm,G,h4,ad,aI mU,ab,J]
   rename_i h4;cases D;rw[e1]at he L h3;have h4:w9 y kind=false:=by simpa using h4
   refine⟨?_,λ h=>by cases h⟩;simp+decide only[wa,VB,lk,aB,↓reduceIte,Nat.reduceBEq,Nat.reduceAdd,z8,BL,B9,G4,A,Oc.c,aY he,hd,gb,F,b6 L,b6 h3,hN,aT.c,aY Y,El.c,aY M,aI Dm,G,h4]
  cases D
 .intro u;refine⟨?_,λ h=>by cases h⟩;simp+decide only[wa,VB,lk,aB,↓reduceIte,Nat.reduceBEq,Nat.reduceAdd,z8,jT]
end
section
open Go.Proofs
variable{gl:aM}{base:eH}
def aky{c:Option Nat}(hN:b7 S d k=some (N.c a b c)){x:Oc}(ai:x.ed.length<=1000){lN:List Int}{lE:List Ed}{z:Bool}(h:jy (rk N lE x count) x.ed.zipIdx=some z):
 aJ af gl (VW gl base) 135 LM [(0,.ptr d k 0),(2,eI count),(4,.ptr S.length 4 0),(7,.ptr S.length 7 0),(93,aD x.ed),(94,eI x.ed.length),(95,eI 0)] (aH [(4,x.c),(7,[aD lN,dY lE])] S)=some (if z then(.ret,[(6,eB false)],(aH [] S))else(.exit 2,[(0,.ptr d k 0),(2,eI count),(4,.ptr S.length 4 0),(7,.ptr S.length 7 0),(93,aD x.ed),(94,eI x.ed.length),(95,eI x.ed.length),(96,eB false)],(aH [(4,x.c),(7,[aD lN,dY lE])] S))):=by
 have aj:=cY hN;have hd:(d=S.length)=False:=b6 (by omega);have gb:(d==S.length)=false:=by simp;omega
 have G:(S.length==d)=false:=by simp;omega
 have ag:x.ed.zipIdx.length=x.ed.length:=rP
 have hL:=tP (P:=af) (gl:=gl) (Z7:=VW gl base) (n:=135) (len:=x.ed.length) (C:=LM) (B:=wz) (f:=lL (rk N lE x count) (λ _=>(.ret,[(6,eB false)],(aH [] S))) x.ed.zipIdx)
  (TT:=λ i _=>[(0,.ptr d k 0),(2,eI count),(4,.ptr S.length 4 0),(7,.ptr S.length 7 0),(93,aD x.ed),(94,eI x.ed.length),(95,eI i)]) (ST:=λ _=>(aH [(4,x.c),(7,[aD lN,dY lE])] S))
  (X:=λ _=>(.exit 2,[(0,.ptr d k 0),(2,eI count),(4,.ptr S.length 4 0),(7,.ptr S.length 7 0),(93,aD x.ed),(94,eI x.ed.length),(95,eI x.ed.length),(96,eB false)],(aH [(4,x.c),(7,[aD lN,dY lE])] S))) ?_ ?_ ?_ x.ed.length 0 ()
 .obtain⟨w,hw,hb⟩:=vT (i:=0) h;rcases xe (l:=x.ed.zipIdx) (R:=λ _=>(.ret,[(6,eB false)],(aH [] S))) x.ed.length 0 w (by omega) hw with⟨rfl,J⟩|⟨j,rfl,J⟩
  .have hz:z=false:=hb.symm;subst hz;exact hL _ (iX _) J
  have hz:z=true:=by rw[<-hb];exact dV (by omega)
  subst hz;exact hL _ (iX _) J
 .intro i s;rw[awu];simp+decide only[VB,lk,aB,↓reduceIte,Nat.reduceBEq,Nat.reduceAdd]
 .intro i s hi;have A:((i:Int)<(x.ed.length:Int))=True:=dw (by omega);have ac:x.ed[i]? =some x.ed[i]:=cW hi;have hx:x.ed.zipIdx[i]? =some (x.ed[i],i):=by rw[Eu,ac];simp
  have he:(x.ed.map λ n=>[eI n])[i]? =some [eI x.ed[i]]:=by rw[bM,ac];rfl
  simp only[lL,hx];cases F:rk N lE x count (x.ed[i],i);.trivial
  rename_i ak;unfold rk at F;simp only at F;split at F;.rename_i L;cases F;refine⟨?_,λ h=>by cases h⟩;simp+decide only[wz,VB,lk,aB,↓reduceIte,Nat.reduceBEq,Nat.reduceAdd,A2,BN,CD,vZ,A,Oc.c,aY he,hd,gb,G,dw L]
  rename_i L;split at F;.rename_i h3;cases F;refine⟨?_,λ h=>by cases h⟩;simp+decide only[wz,VB,lk,aB,↓reduceIte,Nat.reduceBEq,Nat.reduceAdd,A2,BN,CD,vZ,A,Oc.c,aY he,hd,gb,G,b6 L,dw h3]
  rename_i h3;split at F
  .rename_i y ee hy hk;obtain⟨j,e1,hj⟩:=jU hy;have Y:(N.E.map El.c)[j]? =some y.c:=by rw[bM,hj];rfl
   have M:(lE.map Ed.c)[i]? =some ee.c:=by rw[bM,hk];rfl
   split at F
   .rename_i h4;have D:∀S,VW gl base 84 [.agg y.c,.agg ee.c,aD x.no] S=some (eB true,S,false):=λ S=>Vb h4
    simp only[El.c,Ed.c]at D;cases F;have ad:nf (some 1) false (.sl (x.ed.map λ n=>[eI n]) none) none (some (.sc (.int .i64 (i:Int))))=some (aD (x.ed.take i)):=by rw[EU (by rw[aF];omega) agH];simp only[aD,BG]
    have ab:∀S,VW gl base 8 [aD (x.ed.take i),eI x.ed[i]] S=some (eB (fW (x.ed.take i) x.ed[i]),S,false):=λ S=>uZ (by rw[n8];omega)
    rw[e1]at ab he;rw[e1]at L h3;cases J:fW (x.ed.take i) x.ed[i];.rw[e1]at J;simp+decide only[wz,VB,lk,aB,↓reduceIte,Nat.reduceBEq,Nat.reduceAdd,A2,BN,CD,abu,A,Oc.c,aY he,hd,gb,G,b6 L,b6 h3,hN,aT.c,aY Y,El.c,aY M,Ed.c,aI Dl,D,ad,aI mU,ab,J,gW (show i<=4611686018427387904 by omega)]
    rw[e1]at J;refine⟨?_,λ h=>by cases h⟩;simp+decide only[wz,VB,lk,aB,↓reduceIte,Nat.reduceBEq,Nat.reduceAdd,A2,BN,CD,vZ,A,Oc.c,aY he,hd,gb,G,b6 L,b6 h3,hN,aT.c,aY Y,El.c,aY M,Ed.c,aI Dl,D,ad,aI mU,ab,J]
   .rename_i h4;have D:∀S,VW gl base 84 [.agg y.c,.agg ee.c,aD x.no] S=some (eB false,S,false):=λ S=>Vb h4
    simp only[El.c,Ed.c]at D;cases F;rw[e1]at he L h3;refine⟨?_,λ h=>by cases h⟩;simp+decide only[wz,VB,lk,aB,↓reduceIte,Nat.reduceBEq,Nat.reduceAdd,A2,BN,CD,vZ,A,Oc.c,aY he,hd,gb,G,b6 L,b6 h3,hN,aT.c,aY Y,El.c,aY M,Ed.c,aI Dl,D]
   cases F
  cases F
 .intro u;refine⟨?_,λ h=>by cases h⟩;simp+decide only[wz,VB,lk,aB,↓reduceIte,Nat.reduceBEq,Nat.reduceAdd,A2,jT]
def w44(hb:NB N){c:Option Nat}(L:b7 S d k=some (N.c a b c)){x:Oc}(ab:x.no.length<=1000)(ac:x.ed.length<=1000){z:Bool}(h:fits N x count=some z):
 VW gl base 52 [.ptr d k 0,.agg x.c,eI count] S=some (eB z,S,false):=by
 have ad:=cY L;have hd:(d=S.length)=False:=b6 (by omega);have gb:(d==S.length)=false:=by simp;omega
 have D:(S.length==d)=false:=by simp;omega
 unfold fits at h;refine jG m44 rfl rfl ?_;split at h;.rename_i Y;cases h;simp+decide only[bz,xL,VB,lk,aB,↓reduceIte,Nat.reduceBEq,Nat.reduceAdd,yf,yz,yE,Oc.c,hd,gb,D,dw Y]
 .rename_i Y;split at h;.rename_i h2;cases h;simp+decide only[bz,xL,VB,lk,aB,↓reduceIte,Nat.reduceBEq,Nat.reduceAdd,yf,yz,yE,Oc.c,hd,gb,D,L,aT.c,aF,b6 Y,dw h2]
  rename_i h2;split at h
  .rename_i r hr;obtain⟨i,e1,hi⟩:=jU hr;have G:(N.R.map RU.c)[i]? =some r.c:=by rw[bM,hi];rfl
   rw[e1]at Y h2;split at h
   .rename_i h3;have F:((x.no.length:Int)=(r.lN.length:Int))=True:=dw (by omega);have J:((x.ed.length:Int)=(r.lE.length:Int))=True:=dw (by omega);split at h;.rename_i h4;cases h;have A:=W8 (gl:=gl) (base:=base) L ab (lE:=r.lE) h4;simp only[Oc.c,e1,↓reduceIte]at A;simp+decide only[bz,xL,VB,lk,aB,↓reduceIte,Nat.reduceBEq,Nat.reduceAdd,yf,yz,yE,CI,Cm,Db,B2,Oc.c,hd,gb,D,L,aT.c,aF,e1,b6 Y,b6 h2,aY G,RU.c,F,J,A]
    .rename_i h4;split at h
     .rename_i bb h5;cases h;have A:=W8 (gl:=gl) (base:=base) L ab (lE:=r.lE) h4;have M:=aky (gl:=gl) (base:=base) L ac (lN:=r.lN) h5;cases bb;.simp only[Oc.c,e1,↓reduceIte,rI]at A M;simp+decide only[bz,xL,VB,lk,aB,↓reduceIte,Nat.reduceBEq,Nat.reduceAdd,yf,yz,yE,CI,Cm,Db,B2,FH,vZ,Hi,Oc.c,hd,gb,D,L,aT.c,aF,e1,b6 Y,b6 h2,aY G,RU.c,F,J,A,M]
      simp only[Oc.c,e1,↓reduceIte,rI]at A M;simp+decide only[bz,xL,VB,lk,aB,↓reduceIte,Nat.reduceBEq,Nat.reduceAdd,yf,yz,yE,CI,Cm,Db,B2,FH,vZ,Hi,Oc.c,hd,gb,D,L,aT.c,aF,e1,b6 Y,b6 h2,aY G,RU.c,F,J,A,M]
     cases h
    cases h
   rename_i h3;cases h;by_cases F:(x.no.length:Int)=(r.lN.length:Int);.have J:((x.ed.length:Int)=(r.lE.length:Int))=False:=b6 (by omega);simp+decide only[bz,xL,VB,lk,aB,↓reduceIte,Nat.reduceBEq,Nat.reduceAdd,yf,yz,yE,CI,Cm,Db,B2,FH,vZ,Hi,Oc.c,hd,gb,D,L,aT.c,aF,e1,b6 Y,b6 h2,aY G,RU.c,dw F,J]
   simp+decide only[bz,xL,VB,lk,aB,↓reduceIte,Nat.reduceBEq,Nat.reduceAdd,yf,yz,yE,CI,Cm,Db,B2,FH,vZ,Hi,Oc.c,hd,gb,D,L,aT.c,aF,e1,b6 Y,b6 h2,aY G,RU.c,b6 F]
  cases h
end
section
open Go.Proofs
variable{P:Program}{gl:aM}{Z7:cI}{base:eH}{T:VT}{st:aq}
def cBl(st:aq):Option (List ae)->Option VR
 |some cs=>some ⟨.agg cs,[],st,.pure⟩
 |none=>none
def fO{cs:List ae}:cBl st (some cs)=some ⟨.agg cs,[],st,.pure⟩:=rfl
def fM{d:Option Tmp}{z:List ae}{ps:List (Nat×bu)}:aN P gl Z7 T st d (.bl z pl ps)=oB (lK gl T ps) λ l=>cBl st (kY pl z (l.map λ p=>(p.1,bD p.2))):=by
 simp only[aN];cases lK gl T ps;.rfl
 rename_i l;simp only[oB];cases kY pl z (l.map λ p=>(p.1,bD p.2))<;>rfl
def eM{z:List ae}:kY pl z []=some z:=rfl
def Iz(pl:List (Nat×Nat))(l:List (Nat×ae))(z:List ae)(v:ae):Option (Nat×Nat)->Option (List ae)
 |some (off,size)=>(match v.fw,v.cells.length==size,decide (off+size<=z.length)with
  |false,true,true=>kY pl (cm z off v.cells) l
  |_,_,_=>none)
 |none=>none
def ft{z:List ae}{l:List (Nat×ae)}:kY pl z ((i,v)::l)=Iz pl l z v pl[i]? :=by
 simp only[kY,Iz];cases pl[i]?;.rfl
 rename_i p;rfl
def fo{z:List ae}{size:Nat}{l:List (Nat×ae)}(A:v.fw=false)(h3:(v.cells.length==size)=true)(h:decide (off+size<=z.length)=true):Iz pl l z v (some (off,size))=kY pl (cm z off v.cells) l:=by simp only[Iz,A,h3,h]
abbrev iP(l:List El):ae:=.sl (l.map El.c) (some 5)
structure Hy (r:RU):Prop where
 s:r.c.map di=r.c
 k:r.c.all ae.cell=true
 d:r.c.all ae.data=true
def Lx:∀{l:List ae},l.all ae.data=true->iJ d k l=true
 |[],_=>rfl
 |v::l,h=>by rw[ug,aR]at h;rw[ZU,Lx h.2,Vs];cases v<;>first|rfl|cases h.1
def RU.len{r:RU}:r.c.length=25:=rfl
def RU.g6{r:RU}:r.c[6]? =some (aD r.rN):=rfl
def RU.g7{r:RU}:r.c[7]? =some (dY r.rE):=rfl
def RU.g11{r:RU}:r.c[11]? =some (aD r.kN):=rfl
def RU.g13{r:RU}:r.c[13]? =some (aD r.iN):=rfl
def RU.g14{r:RU}:r.c[14]? =some (aD r.iE):=rfl
abbrev MS:Type:=List El×List Int
def Lp(l:List Int)(i:Int):Option Int:=lg (λ y=>some (decide (i=y))) 0 l
def xI(r:RU)(x:Oc)(ev fr:Int)(p:Int×Nat)(s:MS):Option (MS⊕bZ):=
 if s.1.length<=1000/\s.2.length<=1000 then
  match Lp r.iN p.2 with
  |some z=>if z>=0 then(match df r.kN z with
   |some a=>(match df x.no a with|some b=>some (.inl (s.1,s.2++[b]))|none=>none)
   |none=>none)
   else some (.inl (s.1++[⟨false,p.1,0,0,ev⟩],s.2++[fr+s.1.length]))
  |none=>none
 else none
def ajP{x:Int}(A:l.length<=1000000){z:Int}(h:Lp l x=some z):VW gl base 30 [aD l,eI x] S=some (eI z,S,false):=iU ade rfl rfl (aeA A h)
def atF{S:List bI}{x:Oc}{r:RU}{ev fr:Int}(hf:0<=fr/\fr<=1000000)(ac:r.rN.length<=1000)(ad:r.iN.length<=1000){s:MS}(h:bP (xI r x ev fr) r.rN.zipIdx ([],[])=some (.inl s)):
 aJ af gl (VW gl base) 104 IL [(2,eI ev),(3,eI fr),(5,.ptr S.length 5 0),(9,.ptr S.length 9 0),(10,.sl [] (some 5)),(11,.sl [] (some 1)),(28,aD r.rN),(29,eI r.rN.length),(30,eI 0)] (aH [(5,x.c),(9,r.c)] S)=some (.exit 0,[(2,eI ev),(3,eI fr),(5,.ptr S.length 5 0),(9,.ptr S.length 9 0),(10,iP s.1),(11,fk s.2),(28,aD r.rN),(29,eI r.rN.length),(30,eI r.rN.length),(31,eB false)],(aH [(5,x.c),(9,r.c)] S)):=by
 have hL:=pg (P:=af) (gl:=gl) (Z7:=VW gl base) (n:=104) (l:=r.rN.zipIdx) (C:=IL) (B:=D2) (f:=xI r x ev fr)
  (TT:=λ i s=>[(2,eI ev),(3,eI fr),(5,.ptr S.length 5 0),(9,.ptr S.length 9 0),(10,iP s.1),(11,fk s.2),(28,aD r.rN),(29,eI r.rN.length),(30,eI i)]) (ST:=λ _=>(aH [(5,x.c),(9,r.c)] S))
  (X:=λ s=>(.exit 0,[(2,eI ev),(3,eI fr),(5,.ptr S.length 5 0),(9,.ptr S.length 9 0),(10,iP s.1),(11,fk s.2),(28,aD r.rN),(29,eI r.rN.length),(30,eI r.rN.length),(31,eB false)],(aH [(5,x.c),(9,r.c)] S))) ?_ ?_ ?_ ([],[]) _ h
 .exact hL
 .intro i s;rw[aAa];simp+decide only[VB,lk,aB,↓reduceIte,Nat.reduceBEq,Nat.reduceAdd]
 .intro i s p hi hp;rw[rP]at hi;have D:((i:Int)<(r.rN.length:Int))=True:=dw (by omega);have J:r.rN[i]? =some r.rN[i]:=cW hi;have ab:p=(r.rN[i],i):=by rw[Eu,J]at hp;simpa using hp.symm
  subst ab;have he:(r.rN.map λ n=>[eI n])[i]? =some [eI r.rN[i]]:=by rw[bM,J];rfl
  unfold xI;by_cases hs:s.1.length<=1000/\s.2.length<=1000
  .rw[ao hs];cases h1:Lp r.iN (i:Int);.trivial
   rename_i z;have A:=λ S=>ajP (gl:=gl) (base:=base) (S:=S) (l:=r.iN) (by omega) h1
   by_cases G:z>=0
   .simp only[ao G];cases h2:df r.kN z;.trivial
    rename_i a;cases h3:df x.no a;.simp only[h3]
    rename_i b;simp only[h3];obtain⟨u,e1,hu⟩:=jU h2;obtain⟨v,e2,hv⟩:=jU h3;have L:(r.kN.map λ n=>[eI n])[u]? =some [eI a]:=by rw[bM,hu];rfl
    have Y:(x.no.map λ n=>[eI n])[v]? =some [eI b]:=by rw[bM,hv];rfl
    have F:∀st,iG st 1 (fk s.2) (.sl [[eI b]] (some 1))=some (fk (s.2++[b])):=λ st=>by rw[<-zZ];exact lZ (by simp only[aF,cD,dG];omega) rfl
    rw[e1]at A G;rw[e2]at L;simp+decide only[D2,VB,lk,aB,↓reduceIte,Nat.reduceBEq,Nat.reduceAdd,Lk,Rc,NN,R0,aaf,PW,D,Oc.c,aY he,RU.g6,RU.g11,RU.g13,aI OC,A,dw G,aY L,aY Y,fD,F,gW (show i<=4611686018427387904 by omega)]
   simp only[aj G];have F:∀st,iG st 1 (fk s.2) (.sl [[eI (fr+(s.1.length:Int))]] (some 1))=some (fk (s.2++[fr+(s.1.length:Int)])):=λ st=>by rw[<-zZ];exact lZ (by simp only[aF,cD,dG];omega) rfl
   have M:∀st,iG st 5 (iP s.1) (.sl [[eB false,eI r.rN[i],eI 0,eI 0,eI ev]] (some 5))=some (iP (s.1++[⟨false,r.rN[i],0,0,ev⟩])):=λ st=>by
    have e:(ae.sl (s.1.map El.c++[[eB false,eI r.rN[i],eI 0,eI 0,eI ev]]) (some 5))=iP (s.1++[⟨false,r.rN[i],0,0,ev⟩]):=by simp[El.c]
    rw[<-e];exact lZ (by simp only[aF,cD,dG];omega) rfl
   have hk:iO (fr+(s.1.length:Int)):=by unfold iO;omega
   simp+decide only[D2,VB,lk,aB,↓reduceIte,Nat.reduceBEq,Nat.reduceAdd,Lk,Rc,NN,R0,ah8,aaD,PW,D,Oc.c,aY he,RU.g6,RU.g11,RU.g13,aI OC,A,b6 G,aF,Fg hk,fD,F,fM,fO,ft,fo,eM,cm,dh,dC,dW,cM,M,gW (show i<=4611686018427387904 by omega)]
  rw[aj hs];trivial
 .intro s;refine⟨?_,λ h=>by cases h⟩;rw[rP];simp+decide only[D2,VB,lk,aB,↓reduceIte,Nat.reduceBEq,Nat.reduceAdd,Lk,jT]
end
section
open Go.Proofs
variable{a:aa}{es:aS}
variable{P:Program}{ng:Nat}{Z7:aW}{I:Im}{H:ah}
theorem H5(D:RP I (.sl es none) a)(F:∀e∈es,e.length=sz)(J:cu I H.objs.get):
 lenOf a=some es.length/\∃cs,eR H.objs.get sz es.length a=some cs/\cs.length=es.length*sz/\bR I sz es cs/\(a=.ai\/a=.dq\/∃v off h,a=.slice v off es.length h):=by
 simp only[RP]at D;rcases D with⟨rfl,rfl|rfl⟩|⟨v,off,h,r,A,rfl,Y,h2,h3,M⟩
 .exact⟨rfl,[],rfl,by simp,by simp[bR],.inl rfl⟩
 .exact⟨rfl,[],rfl,by simp,by simp[bR],.inr (.inl rfl)⟩
 .have L:=J _ _ Y;refine⟨rfl,?_⟩;cases es;.refine⟨[],?_,by simp,by simp[bR],.inr (.inr ⟨_,_,_,rfl⟩)⟩;simp only[dG,uh,nY]at h3;simp only[eR,dG,b9 (be 0),uh,bq,L,nY,b9 h3,dh]
  rename_i e es;have he:A=sz:=by simp only[bR]at M;grind[List.mem_cons_self]
  grind[List.length_take,List.length_drop,eR,Nat.ble_eq_true_of_le,bq]
theorem atE{H:ah}{v:Nat}{r:Row}{mem:List Nat}(F:H.objs.get v=some r)(J:r.ro=false)(h3:H.aG.get r.aC=some mem)(A:mem=[v])(h:r.cells=[]):∃H',gM H v 0 []=some H'/\(∀u,H'.objs.get u=H.objs.get u)/\H'.aG=H.aG/\H'.next=H.next:=by
 subst A;refine⟨{H with objs:=(jF H.objs v (r.start+0) (r.start+0+0) [v]).set v (some {r with cells:=ep r.cells 0 []})},?_,λ u=>?_,rfl,rfl⟩;.grind[gM,List.length_nil,Nat.ble_eq_true_of_le]
 show((jF H.objs v _ _ [v]).set v _).get u=_
 have D:jF H.objs v (r.start+0) (r.start+0+0) [v]=H.objs:=by
  have:Nat.beq v v=true:=by simp
  simp only[jF,this]
 rw[D,Tr.fT];split;.rename_i e;subst e;rw[F,h];have:ep ([]:List aa) 0 []=[]:=rfl;rw[this,<-h]
 rfl
def apG{H:ah}(g:Good H)(A:∀u,H'.objs.get u=H.objs.get u)(h:H'.aG=H.aG)(h3:H'.next=H.next):Good H':=⟨λ u r e=>by rw[A]at e;rw[h3];exact g.wf u r e,λ f mem u r a b c=>by rw[h]at a;rw[A]at c;exact g.aC f mem u r a b c,λ f mem a=>by rw[h]at a;rw[h3];exact g.mem f mem a⟩
def apy{H:ah}(A:∀u,H'.objs.get u=H.objs.get u)(h:H'.aG=H.aG)(h3:H'.next=H.next):Fr none H H':=⟨λ u r e _=>by rw[A];exact e,λ f m e _=>by rw[h];exact e,by rw[h3];exact be _⟩
theorem Yv{H:ah}(g:Good H){bytes:Nat}{new:List aa}(ac:0<sz)(hn:new.length=n*sz)(hb:n*bytes<=eJ)(ag:n<=eJ):
 ∃u H' ex,gm (alloc H [] true sz) sz bytes (.slice H.next 0 0 none) n new=some (.slice u 0 n none,H')/\H.next<=u/\H'.objs.get u=some ⟨new,u,0,ex,false,sz⟩/\H'.aG.get u=some [u]/\Fr none H H'/\Good H':=by
 have L:=gD g [] true sz;have M:=gH g [] true sz;have h:(alloc H [] true sz).objs.get H.next=some ⟨[],H.next,0,true,false,sz⟩:=(ic H [] true sz).row;have A:(alloc H [] true sz).aG.get H.next=some [H.next]:=by grind[alloc,Tr.sY]
 have ab:hY (alloc H [] true sz).objs.get sz (.slice H.next 0 0 none)=some (true,0):=by
  have hb:Nat.beq sz sz=true:=by simp
  simp only[hY,h,hb,dG,b9 (be 0),aip,Nat.zero_div]
 cases n;.have D:new=[]:=km (by simpa using hn);subst D;obtain⟨H',w1,J,F,Y⟩:=atE h rfl A rfl rfl;refine⟨H.next,H',true,?_,be _,by rw[J];exact h,by rw[F];exact A,M.trans (apy J F Y),apG L J F Y⟩;grind[gm,lenOf,Nat.ble_eq_true_of_le]
 .rename_i n;have af:Nat.ble (n+1) 0=false:=rfl;have ad:eR (alloc H [] true sz).objs.get sz 0 (.slice H.next 0 0 none)=some []:=by simp only[eR,b9 (be 0),uh,bq,h,nY,dG,dh]
  refine⟨(alloc H [] true sz).next,alloc (alloc H [] true sz) new false sz,false,?_,M.next,(ic _ new false sz).row,by grind[alloc,Tr.sY],M.trans (gH L new false sz),gD L new false sz⟩;grind[gm,lenOf,Nat.ble_eq_true_of_le,Bool.and_self]
def ayp:cV af .eql 45 .ai .ai=some (.bool true)/\cV af .eql 45 .dq .ai=some (.bool false)/\(∀v off n h,cV af .eql 45 (.slice v off n h) .ai=some (.bool false)):=by simp only[cV,qb,Tryz.underlying45,vI,aEc]
theorem rB:Tryz.prog.info? 3=some Tryz.t3:=by kernel_rfl
theorem azB:∃z,ig af 3=some z/\z.cells.length=1:=by
 refine⟨(match ig af 3 with|some z=>z|none=>.nilPtr),?_,?_⟩
 .have h:(match ig af 3 with|some _=>true|none=>false)=true:=by kernel_rfl
  grind[ig]
 kernel_rfl
def amM:nM af 45 0 (some [])=some ([],1,some 0):=by kernel_rfl
def KE{H:ah}{x:aa}{new:List aa}(D:lenOf x=some n)(F:eR H.objs.get 1 n x=some new):jM af H [45,45] [s,x]=gm H 1 8 s n new:=by obtain⟨z,A,h⟩:=azB;have L:Tryz.t3.size=1:=rfl;have J:Tryz.t3.bytes=8:=rfl;simp+decide only[jM,Tryz.underlying45,rB,A,h,L,J,D,F]
theorem Zz(g:Good H)(hI:cu I H.objs.get)(L:RP I (.sl es none) a)(F:∀e∈es,e.length=1)(hl:es.length<=1000000):
 ∃r,fI af ng Z7 82 [a] H r/\Fr none H r.2/\Good r.2/\((es=[]/\r.1=.ai/\r.2=H)\/∃u cells ex,H.next<=u/\r.1=.slice u 0 es.length none/\r.2.objs.get u=some ⟨cells,u,0,ex,false,1⟩/\r.2.aG.get u=some [u]/\cells.length=es.length*1/\bR I 1 es cells):=by
 obtain⟨h1,cs,h2,h3,h4,h5⟩:=H5 L F hI;refine qn Tryz.func82 rfl ?_;show W af ng Z7 8 _ _ _ _;have a0:aw (fH [a] 0 .nil) 0=a:=rfl;refine aO (bW (H':=H) (λ _=>True) ?_ ?_)
 ·(repeat (first|(apply bA (br rfl);(simp+decide only[AB,a0];rfl))))
  exact bF trivial
 intro T1 _ k1;have b0:=(k1 0 rfl).trans a0;obtain⟨n1,n2,n3⟩:=ayp;have D:∃b,cV af .eql 45 a .ai=some (.bool b)/\(b=true->a=.ai):=by grind
 obtain⟨b,hb,ab⟩:=D;refine aO (aO (bW (H':=H) (λ T=>aw T 4=.bool b) ?_ ?_))
 ·(repeat (first|(apply bA (br rfl);(simp+decide only[AB,b0,hb];rfl))))
  exact bF (by simp+decide only[AB])
 intro T2 t4 k2;have c0:=(k2 0 rfl).trans b0;refine jZ (by rw[mc,t4]) (λ hy=>?_) (λ hn=>?_)
 .have:=ab hy;subst this;refine aO (bW (H':=H) (λ T=>aw T 2=.ai) ?_ ?_)
  ·(repeat (first|(apply bA (br rfl);(simp+decide only[AB,c0];rfl))))
   exact bF (by simp+decide only[AB])
  intro T3 M _;refine oR ⟨by simp,[_],rfl,Fr.refl _ _,g,.inl ⟨?_,?_,rfl⟩⟩;.grind[lenOf,Option.some.injEq,List.eq_nil_of_length_eq_zero]
  simp only[jJ,M]
 .refine kH ?_;obtain⟨u,H',ex,w1,w2,w3,w4,w5,w6⟩:=Yv (H:=H) g (sz:=1) (bytes:=8) (n:=es.length) (new:=cs) (by decide) h3 (by unfold eJ;omega) (by unfold eJ;omega);have J:=gH g [] true 1
  have Y:eR (alloc H [] true 1).objs.get 1 es.length a=some cs:=by
   obtain⟨q1,cs',q2,q3,q4,_⟩:=H5 L F (I:=I) (H:=alloc H [] true 1) (λ u r e=>J.row u r (hI u r e) (by simp));rw[q2]
   have aj:eR H.objs.get 1 es.length a=some cs':=by
    revert q2;rcases h5 with rfl|rfl|⟨v,off,ag,rfl⟩
    .exact id
    .exact id
    simp only[eR,b9 (be _)];simp only[RP]at L;rcases L with⟨_,h|h⟩|⟨v',ac,lim',r',ad,e1,e2,_⟩
    .cases h
    .cases h
    cases e1;have x1:=hI _ _ e2;have x2:=J.row _ _ x1 (by simp);grind[bq,id]
   grind
  have A:=KE (H:=alloc H [] true 1) (s:=.slice H.next 0 0 none) h1 Y;rw[w1]at A;refine aO (bW (H':=H') (λ T=>aw T 2=.slice u 0 es.length none) ?_ ?_)
  ·(repeat (first|(apply bA (br rfl);(simp+decide only[AB,c0,amM,A];rfl))))
   exact bF (by simp+decide only[AB])
  intro T3 M _;exact oR ⟨by simp,[_],rfl,w5,w6,.inr ⟨u,cs,ex,w2,by simp only[jJ,M],w3,w4,h3,h4⟩⟩
def aAS:cV af .eql 33 .ai .ai=some (.bool true)/\cV af .eql 33 .dq .ai=some (.bool false)/\(∀v off n h,cV af .eql 33 (.slice v off n h) .ai=some (.bool false)):=by simp only[cV,qb,Tryz.underlying33,vI,aEc]
def ati:Tryz.prog.info? 91=some Tryz.t91:=by kernel_rfl
theorem asr:∃z,ig af 91=some z/\z.cells.length=5:=by
 refine⟨(match ig af 91 with|some z=>z|none=>.nilPtr),?_,?_⟩
 .have h:(match ig af 91 with|some _=>true|none=>false)=true:=by kernel_rfl
  grind[ig]
 kernel_rfl
def axj:nM af 33 0 (some [])=some ([],5,some 0):=by kernel_rfl
def ajy{H:ah}{x:aa}{new:List aa}(D:lenOf x=some n)(F:eR H.objs.get 5 n x=some new):jM af H [33,33] [s,x]=gm H 5 40 s n new:=by obtain⟨z,A,h⟩:=asr;have L:Tryz.t91.size=5:=rfl;have J:Tryz.t91.bytes=40:=rfl;simp+decide only[jM,Tryz.underlying33,ati,A,h,L,J,D,F]
theorem aqe(g:Good H)(hI:cu I H.objs.get)(L:RP I (.sl es none) a)(F:∀e∈es,e.length=5)(hl:es.length<=1000000):
 ∃r,fI af ng Z7 51 [a] H r/\Fr none H r.2/\Good r.2/\((es=[]/\r.1=.ai/\r.2=H)\/∃u cells ex,H.next<=u/\r.1=.slice u 0 es.length none/\r.2.objs.get u=some ⟨cells,u,0,ex,false,5⟩/\r.2.aG.get u=some [u]/\cells.length=es.length*5/\bR I 5 es cells):=by
 obtain⟨h1,cs,h2,h3,h4,h5⟩:=H5 L F hI;refine qn Tryz.func51 rfl ?_;show W af ng Z7 8 _ _ _ _;have a0:aw (fH [a] 0 .nil) 0=a:=rfl;refine aO (bW (H':=H) (λ _=>True) ?_ ?_)
 ·(repeat (first|(apply bA (br rfl);(simp+decide only[AB,a0];rfl))))
  exact bF trivial
 intro T1 _ k1;have b0:=(k1 0 rfl).trans a0;obtain⟨n1,n2,n3⟩:=aAS;have D:∃b,cV af .eql 33 a .ai=some (.bool b)/\(b=true->a=.ai):=by grind
 obtain⟨b,hb,ab⟩:=D;refine aO (aO (bW (H':=H) (λ T=>aw T 4=.bool b) ?_ ?_))
 ·(repeat (first|(apply bA (br rfl);(simp+decide only[AB,b0,hb];rfl))))
  exact bF (by simp+decide only[AB])
 intro T2 t4 k2;have c0:=(k2 0 rfl).trans b0;refine jZ (by rw[mc,t4]) (λ hy=>?_) (λ hn=>?_)
 .have:=ab hy;subst this;refine aO (bW (H':=H) (λ T=>aw T 2=.ai) ?_ ?_)
  ·(repeat (first|(apply bA (br rfl);(simp+decide only[AB,c0];rfl))))
   exact bF (by simp+decide only[AB])
  intro T3 M _;refine oR ⟨by simp,[_],rfl,Fr.refl _ _,g,.inl ⟨?_,?_,rfl⟩⟩;.grind[lenOf,Option.some.injEq,List.eq_nil_of_length_eq_zero]
  simp only[jJ,M]
 .refine kH ?_;obtain⟨u,H',ex,w1,w2,w3,w4,w5,w6⟩:=Yv (H:=H) g (sz:=5) (bytes:=40) (n:=es.length) (new:=cs) (by decide) h3 (by unfold eJ;omega) (by unfold eJ;omega);have J:=gH g [] true 5
  have Y:eR (alloc H [] true 5).objs.get 5 es.length a=some cs:=by
   obtain⟨q1,cs',q2,q3,q4,_⟩:=H5 L F (I:=I) (H:=alloc H [] true 5) (λ u r e=>J.row u r (hI u r e) (by simp));rw[q2]
   have aj:eR H.objs.get 5 es.length a=some cs':=by
    revert q2;rcases h5 with rfl|rfl|⟨v,off,ag,rfl⟩
    .exact id
    .exact id
    simp only[eR,b9 (be _)];simp only[RP]at L;rcases L with⟨_,h|h⟩|⟨v',ac,lim',r',ad,e1,e2,_⟩
    .cases h
    .cases h
    cases e1;have x1:=hI _ _ e2;have x2:=J.row _ _ x1 (by simp);grind[bq,id]
   grind
  have A:=ajy (H:=alloc H [] true 5) (s:=.slice H.next 0 0 none) h1 Y;rw[w1]at A;refine aO (bW (H':=H') (λ T=>aw T 2=.slice u 0 es.length none) ?_ ?_)
  ·(repeat (first|(apply bA (br rfl);(simp+decide only[AB,c0,axj,A];rfl))))
   exact bF (by simp+decide only[AB])
  intro T3 M _;exact oR ⟨by simp,[_],rfl,w5,w6,.inr ⟨u,cs,ex,w2,by simp only[jJ,M],w3,w4,h3,h4⟩⟩
variable{gl:aM}{G:Gh}
theorem aeB(F:cn G (dA []) H)(J:0<sz){f:FuncId}{r:aa×ah}(M:nr Z7)(L:fI P ng Z7 f xs H r)(h1:Fr none H r.2)(Y:Good r.2)
 (h:(es=[]/\r.1=.ai/\r.2=H)\/∃u cells ex,H.next<=u/\r.1=.slice u 0 es.length none/\r.2.objs.get u=some ⟨cells,u,0,ex,false,sz⟩/\r.2.aG.get u=some [u]/\cells.length=es.length*sz/\bR G.I sz es cells):
 kr 0 G [] H (some r) (.sl es (some sz)) [] false:=by
 have dd:=DQ M L;obtain⟨a,H'⟩:=r;rcases h with⟨rfl,D,A⟩|⟨u,cells,ex,k1,k2,k3,k4,k5,k6⟩
 .simp only at D A;subst D;exact Ip F Y h1 dd (by simp[aA,RP]) λ j es sz c e A=>by grind[ae.cells,aa.cells]
 grind[aA3,AZ,Qi]
theorem Jj(h:bB ρ0 G.I [v] xs):∃a,xs=[a]/\aA ρ0 G.I v a:=by simp only[bB]at h;grind
theorem amB(A:cn G (dA []) H)(Y:l.length<=1000)(D:bB ρ0 G.I [aD l] xs)(hd:nr Z7):∃r,fI af ng Z7 82 xs H r/\kr 0 G [] H (some r) (fk l) [] false:=by
 obtain⟨a,rfl,h⟩:=Jj D;have h:RP G.I (.sl (l.map λ n=>[eI n]) none) a:=by simpa only[aA]using h
 obtain⟨r,M,L,J,F⟩:=Zz (ng:=ng) (Z7:=Z7) A.gd A.fJ h (λ e he=>by grind) (by rw[aF];omega)
 grind[aeB]
theorem alA(A:cn G (dA []) H){l:List El}(hl:l.length<=1000)(D:bB ρ0 G.I [.sl (l.map El.c) none] xs)(hd:nr Z7):∃r,fI af ng Z7 51 xs H r/\kr 0 G [] H (some r) (iP l) [] false:=by
 obtain⟨a,rfl,h⟩:=Jj D;have h:RP G.I (.sl (l.map El.c) none) a:=by simpa only[aA]using h
 obtain⟨r,Y,M,L,J⟩:=aqe (ng:=ng) (Z7:=Z7) A.gd A.fJ h (λ e F=>by obtain⟨n,_,rfl⟩:=eK.1 F;rfl) (by rw[aF];omega)
 grind[aeB]
end
section
variable{bef:Nat->Nat}{objs0:Tr Row}{Z8:Array Oper}
variable{P:Program}{ng n:Nat}{Z7:aW}
def Ar(bef:Nat->Nat):List Oper->Nat->List Nat->List Nat->Bool
 |[],_,_,_=>true
 |o::l,i,rs,cA=>match dj o.op with
  |0=>Ar bef l (i+1) rs cA
  |1=>(match cA with|[]=>Ar bef l (i+1) (i::rs) cA|_=>false)
  |2=>false
  |_=>qJ (bef i) cA&&(qJ (bef i) rs&&Ar bef l (i+1) rs (i::cA))
theorem zY{Z8:List Oper}:∀{l:List Oper} {i:Nat} {rs cA:List Nat} {S:eX} {T T':Tr aa} {H H':ah},Ar bef l i rs cA=true->(∀a∈S.cA,a∈cA)->(∀r∈S.rs,r.1∈rs)->(cA=[]->H.objs=objs0)->
 (∀r∈S.rs,dP P ng r.2.1 objs0.get r.2.2.1=some r.2.2.2)->(∀r∈S.rs,∀e∈S.es,tb (bef e.1) r.1=true)->(∀e∈S.es,e.1∈cA)->eQ P ng Z7 n Z8 l T H=some (T',H')->
 ∃S',gF P ng Z7 n Z8 bef l i S T H=some (S',T',H')/\(∀r∈S'.rs,dP P ng r.2.1 objs0.get r.2.2.1=some r.2.2.2)/\(∀r∈S'.rs,∀e∈S'.es,tb (bef e.1) r.1=true)
 |[],i,rs,cA,S,T,T',H,H',_,_,_,_,L,J,_,h=>by cases h;exact⟨S,rfl,L,J⟩
 |o::l,i,rs,cA,S,T,T',H,H',A,h1,h2,h3,L,J,Y,h=>by
  rw[dB]at h;rw[RC];simp only[Ar]at A;cases hw:bJ Z8 T o
  .rw[hw]at h;simp only[rI,qv]at h⊢;rcases DV o.op with D|D|D|D
   .rw[D]at A;exact zY A h1 h2 h3 L J Y h
   .rw[D]at A;cases cA;.exact zY A h1 (λ r hr=>cz _ (h2 r hr)) h3 L J Y h
    rename_i a b;cases A
   .rw[D]at A;cases A
   rw[D]at A;simp only[aR]at A;exact zY A.2.2 (λ a M=>cz _ (h1 a M)) h2 (λ e=>by cases e) L J (λ e he=>cz _ (Y e he)) h
  rw[hw]at h;simp only[jz]at h⊢;cases G:bK P ng Z7 T H o.op;.rw[G]at h;cases h
  rename_i r;rw[G]at h;simp only at h⊢;rcases DV o.op with D|D|D|D
  .rw[D]at A;rw[ab6 D];refine zY A h1 h2 (λ e=>?_) L J Y h;rw[<-h3 e];simp only[bK,D]at G;unfold fZ at G;split at G<;>cases G;rfl
  .rw[D]at A;rw[abk D];cases cA
   .have ab:=h3 rfl;have ac:dP P ng T H.objs.get o.op=some r.1/\r.2=H:=by simp only[bK,D]at G;unfold fZ at G;grind
    have ad:S.es=[]\/True:=.inr trivial;refine zY (S:=sW i T o.op S r.1) A h1 (λ x F=>?_) (λ _=>by rw[ac.2];exact ab) (λ x F=>?_) (λ x F e he=>?_) Y h
    .rcases ck.1 (show x∈(i,T,o.op,r.1)::S.rs from F)with rfl|F
     .exact cS ..
     exact cz _ (h2 x F)
    .rcases ck.1 (show x∈(i,T,o.op,r.1)::S.rs from F)with rfl|F
     .grind[dP]
     exact L x F
    rcases ck.1 (show x∈(i,T,o.op,r.1)::S.rs from F)with rfl|F
    .have:=Y e he;cases this
    exact J x F e he
   rename_i a b;cases A
  .rw[D]at A;cases A
  rw[D]at A;simp only[aR]at A;rw[ahv D (A1.2 λ a M=>A1.1 A.1 a (h1 a M))];refine zY (S:=Bc i S r.2) A.2.2 (λ a M=>?_) h2 (λ e=>by cases e) L (λ x F e he=>?_) (λ e he=>?_) h
  .rcases ck.1 (show a∈i::S.cA from M)with rfl|M
   .exact cS ..
   exact cz _ (h1 a M)
  .rcases ck.1 (show e∈(i,r.2.objs)::S.es from he)with rfl|he
   .exact A1.1 A.2.1 _ (h2 x F)
   exact J x F e he
  rcases ck.1 (show e∈(i,r.2.objs)::S.es from he)with rfl|he
  .exact cS ..
  exact cz _ (Y e he)
theorem Tk{j:Nat}{o:Op}{v:aa}:∀{es:List (Nat×Tr Row)} {up:Option Nat},dP P ng T objs0.get o=some v->(∀e∈es,tb (bef e.1) j=true)->qx P ng bef objs0 j T o v es up=true
 |[],up,h0,_=>by show((match up with|some e=>tb (bef j) e|none=>false)||qT P ng T objs0.get o v)=true;simp[qT,h0,ad7]
 |e::es,up,h0,h=>by show(((match up with|some e'=>tb (bef j) e'|none=>false)||tb (bef e.1) j||qT P ng T e.2.get o v)&&qx P ng bef objs0 j T o v es (some e.1))=true;rw[Tk h0 λ e' A=>h e' (cz _ A),h e (cS ..)];simp
theorem awo{T':Tr aa}{H:ah}(D:Ar (cO Z8) Z8.toList 0 [] []=true)(h:eQ P ng Z7 n Z8.toList Z8.toList T H=some (T',H')):jn P ng Z7 n Z8 T H true=some (T',H'):=by
 obtain⟨S,G,F,h3⟩:=zY (S:=⟨[],[],[]⟩) (objs0:=H.objs) D (λ a A=>by cases A) (λ a A=>by cases A) (λ _=>rfl) (λ a A=>by cases A) (λ a A=>by cases A) (λ a A=>by cases A) h;show nL P ng (cO Z8) H.objs (gF P ng Z7 n Z8.toList (cO Z8) Z8.toList 0 ⟨[],[],[]⟩ T H)=_;rw[G];simp only[nL]
 have:∀rs:List (Nat×Tr aa×Op×aa),(∀r∈rs,dP P ng r.2.1 H.objs.get r.2.2.1=some r.2.2.2)->(∀r∈rs,∀e∈S.es,tb (cO Z8 e.1) r.1=true)->vd P ng (cO Z8) H.objs S.es rs=true:=by
  intro rs;induction rs with
  |nil=>intro _ _;rfl
  |cons r rs J=>grind[abn,List.mem_cons_of_mem,Tk,List.mem_cons_self]
 rw[this S.rs F h3]
theorem agb{H:ah}{Q:eE->Tr aa->ah->Prop}{id:Nat}(R:Tr aa->Prop)(A:Ar (cO Z8) Z8.toList 0 [] []=true)(h:∃T',eQ P ng Z7 n Z8.toList Z8.toList T H=some (T',H')/\R T')(D:∀T',R T'->(∀t,Gj Z8.toList t=true->aw T' t=aw T t)->Q .normal T' H'):W P ng Z7 n (.region id Z8 true) T H Q:=by grind[jH,awo,Fb]
end
section
open Go.Proofs
variable{l':List Int}{v:Nat}
variable{ng:Nat}{Z7:aW}
theorem Lz{c:aa}(h:i<cs.length):ep cs i [c]=cs.set i c:=by grind[ep,List.set_eq_take_append_cons_drop]
theorem cj.Ch{H:ah}(g:Good H)(h:cj H 1 n s cs fm)(hi:i<n){c:aa}(Y:c.eh=true){e:TypeId}{j:TypeInfo}(J:P.underlying t=some (.slice e))(L:P.info? e=some j)(A:j.size=1):
 ∃v off H',(∀k,iM P t s (.int k (.ofNat i))=some (.ptr v off))/\gM H v off [c]=some H'/\cj H' 1 n s (cs.set i c) fm/\Fr fm H H'/\Good H':=by
 obtain⟨h1,⟨rfl,rfl,_⟩|⟨v,r,rfl,o,D,hl,G,rfl⟩⟩:=h;.omega
 .obtain⟨H',hw,F,M,hn,g'⟩:=lO g o (off:=i) (new:=[c]) (by simp;omega) (by simp[Y]);refine⟨v,0+i*1,H',λ k=>?_,?_,⟨by simpa using h1,.inr ⟨v,_,rfl,F,D,?_,?_,rfl⟩⟩,M,g'⟩;.simp only[iM,J,L,b9 hi,A]
  .grind
  .grind[Lz]
  grind[Lz,List.take_set]
theorem F1{c:aa}(h:bq g v off 1=some [c]):de af g 3 (.ptr v off)=some c:=by grind[CY,de,Tryz.underlying3,rB]
def af0{H:ah}{k:Int}:dJ af H 3 (.ptr v off) (.int .i64 k)=gM H v off [.int .i64 k]:=by have h:Tryz.t3.size=1:=rfl;simp+decide only[dJ,rB,h,aa.cells];rfl
abbrev cT(l:List Int):List aa:=l.map λ n=>.int .i64 n
def agZ{i:Int}(h: -1000000<=i/\i<=1000000):cV af .sub t (.int .i64 i) (.int .i64 1)=some (.int .i64 (i- 1)):=by show some (aa.int .i64 (IntKind.wrap .i64 (i- 1)))=_;rw[Ap (by unfold iO;omega)]
def awd{i:Int}(h: -1000000<=i/\i<=1000000):cV af .add t (.int .i64 i) (.int .i64 1)=some (.int .i64 (i+1)):=by rw[EW (by unfold iO;omega)]
def D5(l l':List Int)(i:Nat):Prop:=l'.length=l.length/\∀k,k<l.length->l'[k]? =if k<i\/l.length<=k+i then l[l.length- 1-k]?else l[k]?
theorem D5.step{j:Nat}(h:D5 l l' i)(L:j+i+1=l.length)(A:i<j){x y:Int}(G:l'[j]? =some x)(F:l'[i]? =some y):D5 l ((l'.set i x).set j y) (i+1):=by obtain⟨D,M⟩:=h;refine⟨by simp[D],λ k J=>?_⟩;grind
theorem D5.done(h:D5 l l' i)(hi:l.length<=2*i+1):l'=l.reverse:=by obtain⟨D,A⟩:=h;apply xr;grind[List.getElem?_eq_none]
theorem aoK{H:ah}(g:Good H)(h:cj H 1 l.length s (cT l) fm)(hl:l.length<=1000):
 ∃r,fI af ng Z7 231 [s] H r/\cj r.2 1 l.length s (cT l.reverse) fm/\Fr fm H r.2/\Good r.2:=by
 refine qn Tryz.func231 rfl ?_;show W af ng Z7 28 _ _ _ _;have a0:aw (fH [s] 0 .nil) 0=s:=rfl;have G:∀{K:ah} {cs:List aa},cj K 1 l.length s cs fm->dD af 45 s=some (.int .i64 (Int.ofNat l.length)):=λ o=>o.read.dD Tryz.underlying45
 have F:cV af .sub 3 (.int .i64 (Int.ofNat l.length)) (.int .i64 1)=some (.int .i64 (Int.ofNat l.length- 1)):=agZ (by simp only[mS];omega);refine aO (bW (H':=H) (λ T=>aw T 2=.int .i64 0/\aw T 3=.int .i64 (Int.ofNat l.length- 1)) ?_ ?_)
 ·(repeat ((first|apply bA (br rfl)|apply bO rfl rfl rfl);simp+decide only[AB,a0,G h,F];rfl))
  exact bF (by simp+decide only[AB,vI])
 rintro T1 ⟨t2,t3⟩ k1
 have b0:=(k1 0 rfl).trans a0;refine ku (tj (λ m T K=>∃i l',m+i=l.length/\D5 l l' i/\cj K 1 l.length s (cT l') fm/\Fr fm H K/\Good K/\aw T 0=s/\aw T 2=.int .i64 (i:Int)/\aw T 3=.int .i64 ((l.length:Int)- 1-i)) ?_ l.length _ _ ⟨0,l,by omega,⟨rfl,λ k hk=>by rw[aj (by omega)]⟩,h,Fr.refl _ _,g,b0,t2,by rw[t3];simp⟩)
 rintro m T K ⟨i,l',hm,A,L,hf,gk,u0,u2,u3⟩
 refine aO (aO (bW (H':=K) (λ T=>aw T 9=.bool (decide ((i:Int)<(l.length:Int)- 1-i))) ?_ ?_))
 ·(repeat ((first|apply bA (br rfl)|apply bO rfl rfl rfl);simp+decide only[AB,u2,u3];rfl))
  exact bF (by simp+decide only[AB])
 intro T2 t9 k2;have v0:=(k2 0 rfl).trans u0;have v2:=(k2 2 rfl).trans u2;have v3:=(k2 3 rfl).trans u3;refine jZ (by rw[mc,t9]) (λ D=>?_) (λ J=>?_)
 .have D:=jk D;obtain⟨j,hj⟩:∃j:Nat,(l.length:Int)- 1-i=j:=⟨l.length- 1-i,by omega⟩;rw[hj]at v3 D;have ag:j+i+1=l.length:=by omega
  have ai:=A.1;obtain⟨x,hx⟩:∃x,l'[j]? =some x:=⟨_,cW (by omega)⟩;obtain⟨y,hy⟩:∃y,l'[i]? =some y:=⟨_,cW (by omega)⟩;have ac:Tryz.t3.size=1:=rfl;obtain⟨M,oj,j1,_,j3⟩:=L.read.index (i:=j) (by omega) Tryz.underlying45 rB rfl;obtain⟨Y,oi,i1,_,i3⟩:=L.read.index (i:=i) (by omega) Tryz.underlying45 rB rfl;have lj:=F1 (j3 0 (.int .i64 x) (by omega) (by simp[hx]));have li:=F1 (i3 0 (.int .i64 y) (by omega) (by simp[hy]));rw[nY]at lj li;obtain⟨w1,p1,K1,e1,e2,e3,e4,e5⟩:=cj.Ch (P:=af) gk L (i:=i) (by omega) (c:=.int .i64 x) rfl Tryz.underlying45 rB rfl;obtain⟨w2,p2,K2,d1,d2,d3,d4,d5⟩:=cj.Ch (P:=af) e5 e3 (i:=j) (by omega) (c:=.int .i64 y) rfl Tryz.underlying45 rB rfl;have ab:∀k,iM af 45 s (.int k (j:Int))=some (.ptr M oj):=j1;have ad:∀k,iM af 45 s (.int k (i:Int))=some (.ptr Y oi):=i1;have q1:aa.ptr w1 p1=.ptr Y oi:=dU ((e1 .i64).symm.trans (i1 .i64));have q2:aa.ptr w2 p2=.ptr M oj:=dU ((d1 .i64).symm.trans (j1 .i64));cases q1;cases q2;have s1:dJ af K 3 (.ptr Y oi) (.int .i64 x)=some K1:=by rw[af0];exact e2
  have s2:dJ af K1 3 (.ptr M oj) (.int .i64 y)=some K2:=by rw[af0];exact d2
  have sa:=awd (t:=3) (i:=(i:Int)) (by omega);have sb:=agZ (t:=3) (i:=(j:Int)) (by omega);refine kH (aO (ku (agb (H':=K2) (λ T=>True) (by kernel_rfl) ?_ ?_)))
  ·(repeat ((first|apply bA (br rfl)|apply bO rfl rfl rfl);simp+decide only[AB,v0,v2,v3,ab,ad,lj,li,s1,s2];rfl))
   exact bF trivial
  intro T3 _ k3;have x0:=(k3 0 rfl).trans v0;have x2:=(k3 2 rfl).trans v2;have x3:=(k3 3 rfl).trans v3;refine bW (H':=K2) (λ T=>aw T 2=.int .i64 ((i:Int)+1)/\aw T 3=.int .i64 ((j:Int)- 1)) ?_ ?_
  ·(repeat ((first|apply bA (br rfl)|apply bO rfl rfl rfl);simp+decide only[AB,x2,x3,sa,sb];rfl))
   exact bF (by simp+decide only[AB,vI])
  rintro T4 ⟨t2,t3⟩ k4
  refine⟨m- 1,by omega,i+1,(l'.set i x).set j y,by omega,A.step ag (by omega) hx hy,?_,(hf.trans e4).trans d4,d5,(k4 0 rfl).trans x0,by rw[t2];simp,by rw[t3,<-hj];congr 1;omega⟩;grind[set,List.map_set]
 .have J:=xt J;refine tX ?_;refine⟨by simp,[],rfl,?_,hf,gk⟩;rw[<-A.done (by omega)];exact L
end
section
open Go.Proofs
variable{es:aS}{v:Nat}
variable{ng:Nat}{Z7:aW}
def kM(H:ah)(fm:Option Nat):Prop:=∀f,fm=some f->H.next<=f
def Fr.jE{H K':ah}(g:Good H)(h:Fr none H K)(k:Fr fm K K')(A:kM H fm):Fr none H K':=by
 refine⟨λ u r D _=>k.row u r (h.row u r D (by simp)) ?_,λ f m F _=>k.aG f m (h.aG f m F (by simp)) ?_,fX h.next k.next⟩;.intro e;have:=A _ e.symm;have:=(g.wf u r D).2;omega
 intro e;have:=A _ e.symm;have:=(g.mem f m F).1;omega
def JU:∀{l:List Int},bR I 1 (l.map λ n=>[eI n]) (cT l)
 |[]=>by simp[bR]
 |a::l=>by simp only[fL,bR,cT];refine⟨rfl,?_,JU⟩;simp[cE,RP,lX]
theorem cj.rp{H:ah}(g:Good H)(fr:Fr none H H')(L:iz H H')(h:cj H' sz n s cs fm)(J:kM H fm)(G:es.length=n)(hr:bR (mL I H H') sz es cs):RP (mL I H H') (.sl es none) s:=by
 obtain⟨h1,⟨rfl,h2,_⟩|⟨v,r,rfl,o,D,hl,Y,rfl⟩⟩:=h;.simp only[RP];grind[List.eq_nil_of_length_eq_zero]
 have M:H.next<=v:=by
  rcases rK v H.next with h|h
  .exfalso;have F:=J _ rfl;cases A:H.objs.get v;.have:=L.2.1 v h A;rw[o.row]at this;cases this
   rename_i r0;have:=fr.row v r0 A (by simp);rw[o.row]at this;cases this;have:=(g.wf v _ A).2;omega
  exact h
 simp only[RP];refine .inr ⟨v,0,none,r,sz,by rw[G],by unfold mL;rw[aj (by omega)];exact o.row,.inr ⟨rfl,D⟩,by rw[G];omega,?_⟩;grind
theorem RK(hI:cu I g){a:aa}(Y:RP I (.sl es none) a){e:List ae}(he:es[i]? =some e){et:TypeId}{j:TypeInfo}(ht:Tryz.prog.underlying t=some (.slice et))(hj:Tryz.prog.info? et=some j)(F:e.length=j.size):
 ∃v off,(∀k,iM af t a (.int k (.ofNat i))=some (.ptr v off))/\∀c x,e[c]? =some x->∃b,bq g v (off+c) 1=some [b]/\RP I x b:=by
 have hi:i<es.length:=by grind[List.getElem?_eq_some_iff]
 simp only[RP]at Y;rcases Y with⟨rfl,_⟩|⟨v,off,ab,r,sz,rfl,h1,h2,h3,h4⟩
 .simp at hi
 .have D:∀(es:aS) (i:Nat) (cs:List aa),bR I sz es cs->es[i]? =some e->e.length=sz/\cE I e ((cs.drop (i*sz)).take sz):=by
   intro es;induction es with
   |nil=>intro i cs _ h;simp at h
   |cons d es ih=>
    intro i cs h h';simp only[bR]at h;cases i;.grind
    rename_i i;grind[List.drop_drop,Nat.succ_mul,Nat.add_comm]
  obtain⟨k1,L⟩:=D es i _ h4 he;have J:i*sz+sz<=es.length*sz:=by have:=mQ sz (show i+1<=es.length by omega);grind[Nat.add_mul]
  rw[<-k1,F]at L J h3 h4;refine⟨v,off+i*j.size,λ k=>?_,λ c x hx=>?_⟩;.simp only[iM,ht,hj,b9 hi]
  have hc:c<e.length:=by grind[List.getElem?_eq_some_iff]
  have A:∀(e:List ae) (c:Nat) (bs:List aa),cE I e bs->e[c]? =some x->∃b,bs[c]? =some b/\RP I x b:=by
   intro e;induction e with
   |nil=>intro c bs _ h;simp at h
   |cons d e ih=>
    intro c bs h h';simp only[cE]at h;grind
  obtain⟨b,hb,G⟩:=A e c _ L hx;refine⟨b,?_,G⟩;have M:=hI _ _ h1;grind[bq,Nat.ble_eq_true_of_le,List.getElem?_eq_getElem,List.drop_eq_getElem_cons]
def jc(tn:aS)(i:Nat):Int:=match tn[i]?with
 |some [_,.sc (.int _ p),_,_]=>p
 |_=> -1
def jf(tn:aS):Nat->Int->List Int
 |0,_=>[]
 |f+1,a=>if a<0 then[]else a::jf tn f (jc tn a.toNat)
def Cv(tn:aS):Prop:=tn.length<=1000/\∀i,i<tn.length->∃D p A h,tn[i]? =some [D,.sc (.int .i64 p),A,h]/\ -1<=p/\p<i
def EY:Tryz.prog.info? 51=some Tryz.t51:=by kernel_rfl
def Od:Tryz.prog.info? 28=some Tryz.t28:=by kernel_rfl
def EM:gv af 31 (.ptr v o) 0=some (.ptr v (o+0)):=by have h:Nat.beq Tryz.t28.size 0=false:=rfl;simp only[gv,Tryz.underlying31,Od,h];rfl
def asD:gv af 51 (.ptr v o) 1=some (.ptr v (o+1)):=by have h:Nat.beq Tryz.t3.size 0=false:=rfl;simp only[gv,Tryz.underlying51,rB,h];rfl
def Ez{c:aa}(h:bq g v off 1=some [c]):de af g 28 (.ptr v off)=some c:=by simp only[de,Tryz.underlying28,Od,h];rfl
def Yl:ig af 3=some (.int .i64 0):=by kernel_rfl
def Wb{k:Int}:nM af 45 1 (some [(0,.int .i64 k)])=some ([.int .i64 k],1,some 1):=by have h:Tryz.t3.size=1:=rfl;simp+decide only[nM,Tryz.underlying45,rB,Yl,h,fill,aa.cells,kh,ep];rfl
theorem agy{tn:aS}(A:Cv tn):∀{f g:Nat} {a:Int},a<f->f<=g->a<tn.length->jf tn g a=jf tn f a
 |0,0,a,_,_,_=>rfl
 |0,g+1,a,h,_,_=>by grind[jf]
 |f+1,0,a,_,h,_=>by omega
 |f+1,g+1,a,h,J,G=>by
  simp only[jf];split;.rfl
  rename_i L;obtain⟨c0,p,Y,M,e,F,p2⟩:=A.2 a.toNat (by omega);have D:jc tn a.toNat=p:=by unfold jc;rw[e]
  rw[D,agy A (f:=f) (g:=g) (by omega) (by omega) (by omega)]
theorem Pn{tn:aS}:∀{f:Nat} {a:Int},(jf tn f a).length<=f
 |0,_=>be _
 |f+1,a=>by
  simp only[jf];split;.exact iB _
  have:=Pn (tn:=tn) (f:=f) (a:=jc tn a.toNat);simp only[cD];omega
theorem apO{I:Im}{H:ah}(g:Good H)(hI:cu I H.objs.get){tn:aS}(ht:Cv tn){h A:aa}(hN:RP I (.sl tn none) h)(oN:h.eh=true)(oE:A.eh=true){a:Nat}(ha:a<tn.length)
 (hc:∀f args H,f=231->ir af Z7 f args H=Z7 f args H)
 (al:∀{K:ah} {s:aa} {l:List Int} {fm:Option Nat},Good K->cj K 1 l.length s (cT l) fm->l.length<=1000->∃r,Z7 231 [s] K=some r/\cj r.2 1 l.length s (cT l.reverse) fm/\Fr fm K r.2/\Good r.2):
 ∃r,fI af ng Z7 177 [.agg [h,A],.int .i64 (a:Int)] H r/\Fr none H r.2/\Good r.2/\∃fm,cj r.2 1 (jf tn (a+1) a).length r.1 (cT (jf tn (a+1) a).reverse) fm/\kM H fm:=by
 have ar:=ht.1;refine qn Tryz.func177 rfl ?_;show W af ng Z7 21 _ _ _ _;have a0:aw (fH [.agg [h,A],.int .i64 (a:Int)] 0 .nil) 0=.agg [h,A]:=rfl;have a1:aw (fH [.agg [h,A],.int .i64 (a:Int)] 0 .nil) 1=.int .i64 (a:Int):=rfl;have G:(aa.agg [h,A]).cells=[h,A]:=rfl;have f0:=gH g [h,A] true 1;have g0:=gD g [h,A] true 1;refine aO (bW (H':=alloc H [h,A] true 1) (λ T=>aw T 2=.ptr H.next 0) ?_ ?_)
 ·(repeat ((first|apply bA (br rfl)|apply bO rfl rfl rfl);simp+decide only[AB,a0,a1,G];rfl))
  exact bF (by simp+decide only[AB])
 intro T1 t2 k1;have b1:=(k1 1 rfl).trans a1;refine aO (bW (H':=alloc H [h,A] true 1) (λ T=>aw T 5=.ai) ?_ ?_)
 ·(repeat ((first|apply bA (br rfl)|apply bO rfl rfl rfl);simp+decide only[AB,b1];rfl))
  exact bF (by simp+decide only[AB])
 intro T2 t5 k2;have c1:=(k2 1 rfl).trans b1;have c2:=(k2 2 rfl).trans t2;refine aO (ku (tj (λ m T K=>∃(x:Int) (L:List Int) (s:aa) (fm:Option Nat),(m:Int)=x+1/\x<tn.length/\L++jf tn m x=jf tn (a+1) a/\cj K 1 L.length s (cT L) fm/\kM (alloc H [h,A] true 1) fm/\Fr none (alloc H [h,A] true 1) K/\Good K/\aw T 1=.int .i64 x/\aw T 2=.ptr H.next 0/\aw T 5=s) ?_ (a+1) _ _ ⟨a,[],.ai,none,by omega,by omega,rfl,⟨by simp,.inl ⟨rfl,rfl,rfl⟩⟩,λ f e=>(by cases e),Fr.refl _ _,g0,c1,c2,t5⟩))
 rintro m T K ⟨x,L,s,fm,hm,hx,hL,ho,F,M,gk,u1,u2,u5⟩
 refine aO (aO (bW (H':=K) (λ T=>aw T 7=.bool (decide (x>=0))) ?_ ?_))
 ·(repeat ((first|apply bA (br rfl)|apply bO rfl rfl rfl);simp+decide only[AB,u1];rfl))
  exact bF (by simp+decide only[AB])
 intro T3 t7 k3;have v1:=(k3 1 rfl).trans u1;have v2:=(k3 2 rfl).trans u2;have v5:=(k3 5 rfl).trans u5;have ao:L.length<=1000:=by grind[List.length,List.length_append,Pn]
 refine jZ (by rw[mc,t7]) (λ ad=>?_) (λ ac=>?_)
 .have ad:=jk ad;obtain⟨i,rfl⟩:∃i:Nat,x=i:=⟨x.toNat,by omega⟩;obtain⟨c0,p,d2,d3,e,p1,p2⟩:=ht.2 i (by omega);have hp:jc tn i=p:=by unfold jc;rw[e]
  have g1:=gD gk [.int .i64 (i:Int)] true 1;have f1:=gH gk [.int .i64 (i:Int)] true 1;have o1:cj (alloc K [.int .i64 (i:Int)] true 1) 1 L.length s (cT L) fm:=ho.B7 f1;have an:lenOf (.slice K.next 0 1 none)=some 1:=rfl;have lits:eR (alloc K [.int .i64 (i:Int)] true 1).objs.get 1 1 (.slice K.next 0 1 none)=some [.int .i64 (i:Int)]:=by have hr:=(ic K [.int .i64 (i:Int)] true 1).row;simp+decide only[eR,bq,hr];rfl
  obtain⟨s2,K2,aq,q1,q2,q3,q4,q5⟩:=Cs (k:=1) (bytes:=8) (new:=[.int .i64 (i:Int)]) g1 (by decide) o1 rfl rfl (by unfold eJ;omega) (by unfold eJ;omega);have J:=KE (s:=s) an lits;rw[q1]at J;have D:Fr none (alloc H [h,A] true 1) K2:=(M.trans f1).jE g0 q3 F;refine kH (aO (ku (bW (H':=K2) (λ T=>aw T 5=s2) ?_ ?_)))
  ·(repeat ((first|apply bA (br rfl)|apply bO rfl rfl rfl);simp+decide only[AB,v1,v5,Wb,J];rfl))
   exact bF (by simp+decide only[AB])
  intro T4 t5 k4;have w1:=(k4 1 rfl).trans v1;have w2:=(k4 2 rfl).trans v2;have ak:bq K2.objs.get H.next (0+0) 1=some [h]:=by have hr:=D.row _ _ (ic H [h,A] true 1).row (by simp);simp+decide only[bq,hr];rfl
  have ap:cu I K2.objs.get:=λ u r e=>D.row u r (f0.row u r (hI u r e) (by simp)) (by simp)
  obtain⟨y,o,x1,x2⟩:=RK ap hN e Tryz.underlying28 EY rfl;obtain⟨b,hb,Y⟩:=x2 1 (.sc (.int .i64 p)) rfl;simp only[RP]at Y;obtain⟨rfl,_⟩:=Y;have am:∀k,iM af 28 h (.int k (i:Int))=some (.ptr y o):=x1;refine bW (H':=K2) (λ T=>aw T 1=.int .i64 p) ?_ ?_
  ·(repeat ((first|apply bA (br rfl)|apply bO rfl rfl rfl);simp+decide only[AB,w1,w2,EM,Ez ak,am,asD,F1 hb];rfl))
   exact bF (by simp+decide only[AB])
  intro T5 t1 k5;refine⟨(p+1).toNat,by omega,p,L++[(i:Int)],s2,aq,by omega,by omega,?_,?_,?_,D,q4,t1,(k5 2 rfl).trans w2,(k5 5 rfl).trans t5⟩
  .rw[<-hL,vH]
   congr 1
   obtain⟨m',rfl⟩:∃m',m=m'+1:=⟨m- 1,by omega⟩;simp only[jf];rw[aj (by omega)];show[(i:Int)]++_=(i:Int)::_;have:((i:Int)).toNat=i:=by omega
   grind[agy]
  .simpa[cT]using q2
  intro f e';rcases q5 with rfl|⟨f',au,rfl⟩
  .exact F f e'
  cases e';have:=M.next;have:=f1.next;omega
 .have ac:=xt ac;have ab:jf tn m x=[]:=by grind[jf]
  rw[ab,oq]at hL;obtain⟨⟨rv,rH⟩,r1,r2,r3,r4⟩:=al gk ho ao;refine tX ?_;show W af ng Z7 21 _ _ _ _;have D:=M.jE g0 r3 F;have ag:=hc 231 [s] K rfl;rw[r1]at ag;refine aO (bW (H':=rH) (λ T=>True) ?_ ?_)
  ·(repeat ((first|apply bA (br rfl)|apply bO rfl rfl rfl);simp+decide only[AB,v5,jS,oq,ag];rfl))
   exact bF trivial
  intro T4 _ k4;have w5:=(k4 5 rfl).trans v5;refine aO (bW (H':=rH) (λ T=>aw T 4=s) ?_ ?_)
  ·(repeat ((first|apply bA (br rfl)|apply bO rfl rfl rfl);simp+decide only[AB,w5];rfl))
   exact bF (by simp+decide only[AB])
  intro T5 t4 _;refine oR ⟨by simp,[_],rfl,f0.trans D,r4,fm,?_,λ f e'=>?_⟩;.grind[jJ]
  have:=F f e';have:=f0.next;omega
end
section
open Go.Proofs
variable{l:List (List Int)}
variable{ng:Nat}{Z7:aW}
def wT(l:List Int):(cT l).length=l.length:=by simp[cT]
def Jd(l:List Int):(cT l).all aa.eh=true:=by
 induction l with
 |nil=>rfl
 |cons a l h=>simp only[cT,fL,ug]at h⊢;rw[h];rfl
theorem UQ(a b:List Int):cT (a++b)=cT a++cT b:=by simp[cT]
def wu(h:i<=1000000):cV P .add t (.int .i64 (Int.ofNat i)) (.int .i64 1)=some (.int .i64 (Int.ofNat (i+1))):=by rw[EW (by unfold iO;simp only[mS];omega)];rfl
def DY:Tryz.prog.info? 45=some Tryz.t45:=by kernel_rfl
def TM{v:Nat}{c:aa}(h:bq g v off 1=some [c]):de af g 45 (.ptr v off)=some c:=by simp only[de,Tryz.underlying45,DY,h];rfl
def axQ{H:ah}{a:aa}{l:List Int}(h:jd H.objs.get 1 l.length a (cT l)):jM af H [45,45] [s,a]=gm H 1 8 s l.length (cT l):=KE h.lenOf h.cells
def rZ(H:ah)(fm:Option Nat):Prop:=fm=none\/∃f,H.next<=f/\fm=some f
def rZ.f{H:ah}(h:rZ H fm):kM H fm:=λ f e=>by
 rcases h with rfl|⟨f',A,rfl⟩
 .cases e
 cases e;exact A
def Fr.SW{H K':ah}(g:Good H)(h:Fr none H K)(k:Fr fm K K')(A:rZ H fm):Fr none H K':=h.jE g k A.f
def rZ.SW{H:ah}{fm':Option Nat}(h:rZ H fm)(A:H.next<=K.next)(k:fm'=fm\/∃f,K.next<=f/\fm'=some f):rZ H fm':=by
 rcases k with rfl|⟨f,D,rfl⟩
 .exact h
 exact .inr ⟨f,by omega,rfl⟩
def EG(g:Nat->Option Row)(s:aa)(l:List (List Int)):Prop:=∃cs,jd g 1 l.length s cs/\∀(i:Nat) (z:List Int) (c:aa),l[i]? =some z->cs[i]? =some c->jd g 1 z.length c (cT z)/\z.length<=2000
def O8{a b:Int}(h:iO (a-b)):cV P .sub t (.int .i64 a) (.int .i64 b)=some (.int .i64 (a-b)):=by show some (aa.int .i64 (IntKind.wrap .i64 (a-b)))=_;rw[Ap h]
def aga:zm af g 45 .ai=some (.int .i64 0):=by kernel_rfl
def aei:dD af 45 .ai=some (.int .i64 0):=by kernel_rfl
def auk:jY af g 45 .ai none (some (.int .i64 0))=some .ai:=by kernel_rfl
theorem ay2{H:ah}(h:cj H 1 n s cs fm)(J:1<=n):∃s0,jY af H.objs.get 45 s none (some (.int .i64 0))=some s0/\cj H 1 0 s0 [] fm:=by
 obtain⟨Y,⟨_,rfl,_⟩|⟨v,r,rfl,o,A,L,G,rfl⟩⟩:=h;.omega
 obtain⟨m,rfl⟩:∃m,n=m+1:=⟨n- 1,by omega⟩;refine⟨.slice v 0 0 none,?_,rfl,.inr ⟨v,r,rfl,o,A,by omega,by simp,rfl⟩⟩;have D:hY H.objs.get 1 (.slice v 0 (m+1) none)=some (r.exact,r.cells.length):=by simp only[hY,o.row,A,nX];grind[Nat.ble_eq_true_of_le]
 have F:Tryz.t3.size=1:=rfl;have M:mb (some (.int .i64 0)) (m+1)=some 0:=rfl;simp only[jY,Tryz.underlying45,rB,F,D,mb];grind[Nat.ble_eq_true_of_le]
theorem apb(n:Nat):kh [aa.int .i64 0] n=cT (List.replicate n 0):=by
 induction n with
 |zero=>rfl
 |succ n h=>grind[kh]
theorem axB{H:ah}(h:1<=n)(F:n<=2000):jM af H [45,3] [s,.int .i64 (Int.ofNat n)]=gm H 1 8 s n (cT (List.replicate n 0)):=by have A:Tryz.t3.size=1:=rfl;have D:Tryz.t3.bytes=8:=rfl;simp only[jM,Tryz.underlying45,Tryz.underlying3,rB,Yl,A,D,aa.cells,zH];grind[Nat.ble_eq_true_of_le,eJ,apb]
def an5{H:ah}(g:Good H){n:Nat}(hn:n<=2000):
 ∃r,fI af ng Z7 104 [.ai,.int .i64 (Int.ofNat n)] H r/\∃fm,cj r.2 1 0 r.1 [] fm/\Fr none H r.2/\Good r.2/\rZ H fm:=by
 refine qn Tryz.func104 rfl ?_;show W af ng Z7 27 _ _ _ _;have A:aw (fH [.ai,.int .i64 (Int.ofNat n)] 0 .nil) 0=.ai:=rfl;have F:aw (fH [.ai,.int .i64 (Int.ofNat n)] 0 .nil) 1=.int .i64 (Int.ofNat n):=rfl;refine aO (jH (by simp+decide only[dT,dB,dO,bJ,AB];rfl) ?_);refine aO (aO (jH (by simp+decide only[dT,dB,dO,bJ,AB,F];rfl) ?_));refine jZ (v:=decide (Int.ofNat n<0)) (by simp+decide only[dT,dB,dO,bJ,AB]) (λ M=>?_) (λ _=>?_);.simp at M;omega
 have i1:iO (0- 0):=by unfold iO;omega
 have i2:iO (Int.ofNat n-(0- 0)):=by unfold iO;simp only[mS];omega
 have i3:Int.ofNat n-(0- 0)=Int.ofNat n:=by omega
 refine kH (aO (aO (jH (by simp+decide only[dT,dB,dO,bJ,AB,A,F,aga,aei,O8 i1,O8 i2,i3];rfl) ?_)));refine aO (jH (by simp+decide only[dT,dB,dO,bJ,AB];rfl) ?_);refine jZ (v:=decide (Int.ofNat n>0)) (by simp+decide only[dT,dB,dO,bJ,AB]) (λ h=>?_) (λ ac=>?_)
 .have h:1<=n:=by simp at h;omega
  obtain⟨s3,H3,ab,Y,J,f3,g3,D⟩:=Cs (sz:=1) (k:=n) (bytes:=8) (new:=cT (List.replicate n 0)) (s:=.ai) (cs:=[]) (n:=0) (fm:=none) g (by omega) ⟨rfl,.inl ⟨rfl,rfl,rfl⟩⟩ (by rw[wT];simp) (Jd _) (by unfold eJ;omega) (by unfold eJ;omega);obtain⟨s4,L,G⟩:=ay2 J (by omega);refine jH (by simp+decide only[dT,dB,dO,bJ,AB,A,aga,aei,rW,nK,auk,axB h hn,Y,L];rfl) ?_;show W af ng Z7 27 _ _ _ _;refine aO (jH (by simp+decide only[dT,dB,dO,bJ,AB];rfl) (oR ⟨by simp,_,rfl,ab,?_,f3,g3,?_⟩));.simp+decide only[dT,dB,dO,bJ,AB,jJ];exact G
  rcases D with rfl|⟨f,hf,rfl⟩
  .exact .inl rfl
  exact .inr ⟨f,hf,rfl⟩
 .refine kH ?_;show W af ng Z7 27 _ _ _ _;refine aO (jH (by simp+decide only[dT,dB,dO,bJ,AB,A];rfl) (oR ⟨by simp,_,rfl,none,?_,Fr.refl _ _,g,.inl rfl⟩));simp+decide only[dT,dB,dO,bJ,AB,jJ];exact⟨rfl,.inl ⟨rfl,rfl,rfl⟩⟩
def EG.keep{H:ah}(h:EG H.objs.get s l)(k:Fr Option.none H H'):EG H'.objs.get s l:=by obtain⟨cs,G,F⟩:=h;exact⟨cs,G.keep k,λ i z c A D=>⟨(F i z c A D).1.keep k,(F i z c A D).2⟩⟩
def ayG{l:List aa}{H:ah}:ir af Z7 104 l H=Z7 104 l H:=by simp only[ir,Tryz.func104];rfl
def acJ(Z7:aW):Prop:=∀(H:ah) (n:Nat),Good H->n<=2000->∃r,Z7 104 [.ai,.int .i64 (Int.ofNat n)] H=some r/\∃fm,cj r.2 1 0 r.1 [] fm/\Fr none H r.2/\Good r.2/\rZ H fm
theorem Mn(h:i<l.length):(l.take (i+1)).flatten=(l.take i).flatten++l[i]:=by grind[List.take_add_one,List.getElem?_eq_getElem,List.flatten_append]
theorem ahZ{l:List (List Int)}{i:Nat}:(l.take i).flatten.length<=l.flatten.length:=by grind[List.flatten_append,List.take_append_drop]
def ahN{j:Nat}(h:i+j<=1000000):cV P .add t (.int .i64 (Int.ofNat i)) (.int .i64 (Int.ofNat j))=some (.int .i64 (Int.ofNat (i+j))):=by rw[EW (by unfold iO;simp only[mS];omega)];rfl
theorem ath(M:acJ Z7){H:ah}(g:Good H)(hs:EG H.objs.get s l)(hl:l.length<=2000)(hb:l.flatten.length<=2000):
 ∃r,fI af ng Z7 57 [s] H r/\∃fm,cj r.2 1 l.flatten.length r.1 (cT l.flatten) fm/\Fr none H r.2/\Good r.2/\rZ H fm:=by
 refine qn Tryz.func57 rfl ?_;show W af ng Z7 36 _ _ _ _;have Y:aw (fH [s] 0 .nil) 0=s:=rfl;obtain⟨cs,h1,h2⟩:=id hs;have ap:cs.length=l.length:=by have:=h1.1;omega
 refine aO (jH (by simp+decide only[dT,dB,dO,bJ,AB];rfl) ?_);refine aO (jH (by simp+decide only[dT,dB,dO,bJ,AB];rfl) ?_);refine aO (aO (jH (by simp+decide only[dT,dB,dO,bJ,AB,Y,h1.dD Tryz.underlying40];rfl) ?_));refine ku (tj (λ j T K=>K=H/\∃i,j+i=l.length/\aw T 0=s/\aw T 9=s/\aw T 10=.int .i64 (Int.ofNat l.length)/\aw T 11=.int .i64 (Int.ofNat i)/\aw T 3=.int .i64 (Int.ofNat (l.take i).flatten.length)) ?_ l.length _ _ ?_)
 .rintro j T K ⟨rfl,i,hi,t0,t9,ad,G,t3⟩
  refine aO (jH (by simp+decide only[dT,dB,dO,bJ,AB,ad,G];rfl) ?_);refine aO (jZ (v:=decide (Int.ofNat i<Int.ofNat l.length)) (by simp+decide only[dT,dB,dO,bJ,AB]) (λ A=>?_) (λ D=>?_))
  .have A:i<l.length:=by grind
   obtain⟨v1,o1,J,_,h⟩:=h1.index A Tryz.underlying40 DY rfl;have h:=h 0 cs[i] (by omega) (by simp);rw[nY]at h;obtain⟨ea,eb⟩:=h2 i l[i] cs[i] (by simp) (by simp);have ag:(l.take i).flatten.length+l[i].length<=2000:=by have:=@ahZ l (i+1);grind[Mn,List.length_append]
   refine kH (aO (ku (aO (jH (by simp+decide only[dT,dB,dO,bJ,AB,t9,G,J,TM h];rfl) ?_))));refine aO (jH (by simp+decide only[dT,dB,dO,bJ,AB,t3,ea.dD Tryz.underlying45,ahN (show(l.take i).flatten.length+l[i].length<=1000000 by omega)];rfl) ?_);refine aO (jH (by simp+decide only[dT,dB,dO,bJ,AB];rfl) ?_);refine jZ (v:=decide (Int.ofNat ((l.take i).flatten.length+l[i].length)<0)) (by simp+decide only[dT,dB,dO,bJ,AB]) (λ ao=>?_) (λ _=>?_);.grind[Int.ofNat_eq_natCast]
   refine kH (jH (by simp+decide only[dT,dB,dO,bJ,AB,G,wu (show i<=1000000 by omega)];rfl) ?_);refine⟨j- 1,by omega,rfl,i+1,by omega,by simp+decide only[dT,dB,dO,bJ,AB,t0],by simp+decide only[dT,dB,dO,bJ,AB,t9],by simp+decide only[dT,dB,dO,bJ,AB,ad],by simp+decide only[dT,dB,dO,bJ,AB],?_⟩;simp+decide only[dT,dB,dO,bJ,AB];rw[Mn A,dM]
  have D:i=l.length:=by grind[of_decide_eq_false]
  rw[D,mB (be _)]at t3;refine tX ?_;show W af ng Z7 36 _ _ _ _;obtain⟨⟨v6,K6⟩,al,am,ak,f6,g6,ai⟩:=M K l.flatten.length g hb;refine aO (jH (by simp+decide only[dT,dB,dO,bJ,AB,t3,tw,jS,oq,ayG,al];rfl) ?_);refine aO (aO (jH (by simp+decide only[dT,dB,dO,bJ,AB,t0,(h1.keep f6).dD Tryz.underlying40];rfl) ?_));refine ku (tj (λ j T K'=>∃i fm,j+i=l.length/\aw T 25=s/\aw T 26=.int .i64 (Int.ofNat l.length)/\aw T 27=.int .i64 (Int.ofNat i)/\cj K' 1 (l.take i).flatten.length (aw T 6) (cT (l.take i).flatten) fm/\Fr none K K'/\Good K'/\rZ K fm) ?_ l.length _ _ ?_)
  .rintro j T K' ⟨i,fm,hi,ac,ab,F,os,fK,gK,L⟩
   refine aO (jH (by simp+decide only[dT,dB,dO,bJ,AB,ab,F];rfl) ?_);refine aO (jZ (v:=decide (Int.ofNat i<Int.ofNat l.length)) (by simp+decide only[dT,dB,dO,bJ,AB]) (λ A=>?_) (λ D=>?_))
   .have A:i<l.length:=by grind
    obtain⟨v1,o1,J,_,h⟩:=(h1.keep fK).index A Tryz.underlying40 DY rfl;have h:=h 0 cs[i] (by omega) (by simp);rw[nY]at h;obtain⟨ea,eb⟩:=h2 i l[i] cs[i] (by simp) (by simp);have ea:=ea.keep fK;have ag:(l.take i).flatten.length+l[i].length<=2000:=by have:=@ahZ l (i+1);grind[Mn,List.length_append]
    obtain⟨s',H',an,ha,ho,hf,g',aj⟩:=Cs (k:=l[i].length) (bytes:=8) (new:=cT l[i]) gK (by omega) os (by rw[wT];omega) (Jd _) (by unfold eJ;omega) (by unfold eJ;omega);refine kH (aO (ku (aO (jH (by simp+decide only[dT,dB,dO,bJ,AB,ac,F,J,TM h];rfl) ?_))));refine jH (by simp+decide only[dT,dB,dO,bJ,AB,axQ ea,ha];rfl) ?_;refine jH (by simp+decide only[dT,dB,dO,bJ,AB,F,wu (show i<=1000000 by omega)];rfl) ?_;refine⟨j- 1,by omega,i+1,an,by omega,by simp+decide only[dT,dB,dO,bJ,AB,ac],by simp+decide only[dT,dB,dO,bJ,AB,ab],by simp+decide only[dT,dB,dO,bJ,AB],?_,Fr.SW g fK hf L,g',L.SW fK.next aj⟩;simp+decide only[dT,dB,dO,bJ,AB];grind[Mn,List.length_append,UQ]
   have D:i=l.length:=by grind[of_decide_eq_false]
   rw[D,mB (be _)]at os;refine tX ?_;show W af ng Z7 36 _ _ _ _;refine aO (jH (by simp+decide only[dT,dB,dO,bJ,AB];rfl) (oR ⟨by simp,_,rfl,fm,?_,fK,gK,L⟩));simp+decide only[dT,dB,dO,bJ,AB,jJ];exact os
  refine⟨0,am,by omega,by simp+decide only[dT,dB,dO,bJ,AB,t0],by simp+decide only[dT,dB,dO,bJ,AB],by simp+decide only[dT,dB,dO,bJ,AB];rfl,?_,f6,g6,ai⟩;simp+decide only[dT,dB,dO,bJ,AB];exact ak
 .exact⟨rfl,0,by omega,by simp+decide only[dT,dB,dO,bJ,AB,Y],by simp+decide only[dT,dB,dO,bJ,AB,Y],by simp+decide only[dT,dB,dO,bJ,AB],by simp+decide only[dT,dB,dO,bJ,AB];rfl,by simp+decide only[dT,dB,dO,bJ,AB];rfl⟩
end
end
end Go.Abs
