/- The self-test awake. -/
import Derived.Test.YtkencjbbibdamaaGreatDoorV
import Derived.Test.YtkencjbbibdamaaGreatDoorQ
set_option linter.all false
namespace Go.Abs
noncomputable section
open Go Go.Proofs
def s5:qt:={f:=137,args:=[.agg [.slice 2 0 4 none,.slice 6 0 2 none]],rows:=[(3,pr 4 [.str (gR [98,97,108,97,110,99,101]),.int .i64 (.negSucc 999),.int .i64 (.ofNat 1000),.ai]),(5,pr 1 [.str (gR [111,112,101,110]),.str (gR [99,108,111,115,101,100])]),(4,pr 4 [.str (gR [115,116,97,116,101]),.int .i64 (.ofNat 0),.int .i64 (.ofNat 1),.slice 5 0 2 none]),(2,pr 4 [.str (gR [65,99,99,111,117,110,116]),.int .i64 (.negSucc 0),.bool true,.slice 3 0 1 none,.str (gR [67,97,115,104]),.int .i64 (.ofNat 0),.bool false,.ai,.str (gR [76,111,97,110]),.int .i64 (.ofNat 0),.bool false,.slice 4 0 1 none,.str (gR [80,101,114,115,111,110]),.int .i64 (.negSucc 0),.bool false,.ai]),(6,pr 7 [.str (gR [111,119,110,115]),.int .i64 (.ofNat 3),.int .i64 (.ofNat 0),.int .i64 (.ofNat 0),.int .i64 (.negSucc 0),.int .i64 (.ofNat 1),.int .i64 (.ofNat 1),.str (gR [112,97,121,115]),.int .i64 (.ofNat 1),.int .i64 (.ofNat 1),.int .i64 (.ofNat 0),.int .i64 (.negSucc 0),.int .i64 (.ofNat 0),.int .i64 (.negSucc 0)])],next:=7,res:=.tuple [.str (gR []),.int .i64 (.ofNat 0)]}
def zy:qt:={f:=40,args:=[.agg [.slice 2 0 4 none,.slice 6 0 2 none],.agg [.slice 7 0 2 none,.ai]],rows:=[(3,pr 4 [.str (gR [98,97,108,97,110,99,101]),.int .i64 (.negSucc 999),.int .i64 (.ofNat 1000),.ai]),(5,pr 1 [.str (gR [111,112,101,110]),.str (gR [99,108,111,115,101,100])]),(4,pr 4 [.str (gR [115,116,97,116,101]),.int .i64 (.ofNat 0),.int .i64 (.ofNat 1),.slice 5 0 2 none]),(2,pr 4 [.str (gR [65,99,99,111,117,110,116]),.int .i64 (.negSucc 0),.bool true,.slice 3 0 1 none,.str (gR [67,97,115,104]),.int .i64 (.ofNat 0),.bool false,.ai,.str (gR [76,111,97,110]),.int .i64 (.ofNat 0),.bool false,.slice 4 0 1 none,.str (gR [80,101,114,115,111,110]),.int .i64 (.negSucc 0),.bool false,.ai]),(6,pr 7 [.str (gR [111,119,110,115]),.int .i64 (.ofNat 3),.int .i64 (.ofNat 0),.int .i64 (.ofNat 0),.int .i64 (.negSucc 0),.int .i64 (.ofNat 1),.int .i64 (.ofNat 1),.str (gR [112,97,121,115]),.int .i64 (.ofNat 1),.int .i64 (.ofNat 1),.int .i64 (.ofNat 0),.int .i64 (.negSucc 0),.int .i64 (.ofNat 0),.int .i64 (.negSucc 0)]),(7,pr 1 [.int .i64 (.ofNat 1),.int .i64 (.ofNat 1)])],next:=8,res:=.bool true}
def yr:qt:={f:=22,args:=[.agg [.slice 2 0 4 none,.slice 6 0 2 none],.slice 7 0 2 none],rows:=[(3,pr 4 [.str (gR [98,97,108,97,110,99,101]),.int .i64 (.negSucc 999),.int .i64 (.ofNat 1000),.ai]),(5,pr 1 [.str (gR [111,112,101,110]),.str (gR [99,108,111,115,101,100])]),(4,pr 4 [.str (gR [115,116,97,116,101]),.int .i64 (.ofNat 0),.int .i64 (.ofNat 1),.slice 5 0 2 none]),(2,pr 4 [.str (gR [65,99,99,111,117,110,116]),.int .i64 (.negSucc 0),.bool true,.slice 3 0 1 none,.str (gR [67,97,115,104]),.int .i64 (.ofNat 0),.bool false,.ai,.str (gR [76,111,97,110]),.int .i64 (.ofNat 0),.bool false,.slice 4 0 1 none,.str (gR [80,101,114,115,111,110]),.int .i64 (.negSucc 0),.bool false,.ai]),(6,pr 7 [.str (gR [111,119,110,115]),.int .i64 (.ofNat 3),.int .i64 (.ofNat 0),.int .i64 (.ofNat 0),.int .i64 (.negSucc 0),.int .i64 (.ofNat 1),.int .i64 (.ofNat 1),.str (gR [112,97,121,115]),.int .i64 (.ofNat 1),.int .i64 (.ofNat 1),.int .i64 (.ofNat 0),.int .i64 (.negSucc 0),.int .i64 (.ofNat 0),.int .i64 (.negSucc 0)]),(8,pr 1 [.int .i64 (.ofNat 1),.int .i64 (.ofNat 1)]),(9,pr 1 [.int .i64 (.ofNat 1),.int .i64 (.ofNat 1)]),(10,pr 3 [.int .i64 (.ofNat 1),.int .i64 (.ofNat 0),.int .i64 (.ofNat 1)]),(11,pr 1 [.int .i64 (.ofNat 0),.int .i64 (.ofNat 1)]),(12,pr 1 [.int .i64 (.ofNat 0),.int .i64 (.ofNat 1)]),(13,pr 1 [.int .i64 (.ofNat 1),.int .i64 (.ofNat 1)]),(14,pr 3 [.int .i64 (.ofNat 1),.int .i64 (.ofNat 0),.int .i64 (.ofNat 1)]),(15,pr 1 [.int .i64 (.ofNat 1),.int .i64 (.ofNat 1)]),(16,pr 1 [.int .i64 (.ofNat 0),.int .i64 (.ofNat 1)]),(17,pr 1 [.int .i64 (.ofNat 0),.int .i64 (.ofNat 1)]),(7,pr 25 [.str (gR [112,97,121]),.slice 8 0 2 none,.ai,.ai,.int .i64 (.ofNat 0),.ai,.slice 9 0 2 none,.slice 10 0 1 none,.ai,.int .i64 (.ofNat 0),.ai,.slice 11 0 2 none,.ai,.slice 12 0 2 none,.ai,.bool true,.int .i64 (.ofNat 1),.ai,.ai,.ai,.ai,.ai,.ai,.int .i64 (.ofNat 0),.ai,.str (gR [100,114,111,112]),.slice 13 0 2 none,.slice 14 0 1 none,.ai,.int .i64 (.ofNat 0),.ai,.slice 15 0 2 none,.ai,.ai,.int .i64 (.ofNat 0),.ai,.slice 16 0 2 none,.ai,.slice 17 0 2 none,.ai,.bool true,.int .i64 (.ofNat 1),.ai,.ai,.ai,.ai,.ai,.ai,.int .i64 (.ofNat 0),.ai])],next:=18,res:=.int .i64 (.ofNat 0)}
def h0:ah:={objs:=Tr.nil.set 0 (some kD),aG:=.nil,next:=2}
def aAw:s5.ok 1=true:=by kernel_rfl
def aoa:Dy s5.res (uV af 1 (uo []) 1000 s5.f s5.args s5.H)=true:=by kernel_rfl
def abL:FZ af 1 s5:=Pt (an6 _ _) ER 1000 aAw aoa
def sm1:DD af 1 (uo [s5]):=Jy λ S a=>by obtain rfl:=dp.1 a;exact abL
def as9:zy.ok 1=true:=by kernel_rfl
def ayD:Dy zy.res (uV af 1 (uo [s5]) 1000 zy.f zy.args zy.H)=true:=by kernel_rfl
def ash:FZ af 1 zy:=Pt sm1 ER 1000 as9 ayD
def an8:yr.ok 1=true:=by kernel_rfl
def ai9:Dy yr.res (uV af 1 (uo [s5]) 1000 yr.f yr.args yr.H)=true:=by kernel_rfl
def anz:FZ af 1 yr:=Pt sm1 ER 1000 an8 ai9
def sm3:DD af 1 (uo [s5,zy,yr]):=Jy λ S a=>by
 rcases ck.1 a with rfl|a
 .exact abL
 rcases ck.1 a with rfl|a
 .exact ash
 obtain rfl:=dp.1 a;exact anz
def aqy:Dy (.bool true) (uV af 1 (uo [s5,zy,yr]) 1000 5 [] h0)=true:=by kernel_rfl
def aqE:kD.cells.all aa.plain=true:=by kernel_rfl
def aeb{c:Nat}{r:Row}(h:h0.objs.get c=some r):c=0/\r=kD:=by
 have h:(Tr.nil.set 0 (some kD)).get c=some r:=h;rw[Tr.fT]at h;split at h;.rename_i e;cases h;exact⟨e.symm,rfl⟩
 cases h
def aAc:JN kD:=by
 intro H A B ρ w q s y;obtain⟨D,a⟩:=acX aqy;refine ar8 (Wv sm3 ER 1000) a rfl (λ c r h=>?_) (by decide) (λ c r h=>?_) B ρ w q s y;.obtain⟨rfl,rfl⟩:=aeb h;exact⟨by decide,rfl,by decide,aqE⟩
 obtain⟨rfl,rfl⟩:=aeb h;exact A
end
end Go.Abs
