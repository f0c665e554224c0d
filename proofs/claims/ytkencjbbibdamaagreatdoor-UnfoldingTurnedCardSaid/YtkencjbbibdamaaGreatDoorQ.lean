/- The static check. -/
import Derived.Test.YtkencjbbibdamaaGreatDoorJ
import Derived.Test.YtkencjbbibdamaaGreatDoorProg
import Derived.KernelRfl
set_option linter.all false
namespace Go.Abs
noncomputable section
open Go
def Aa(fn:Func):Bool:=Option.rec (motive:=λ _=>Bool) true (λ c=>nO c) fn.body
def jQ(l:List Func):Bool:=List.rec (motive:=λ _=>Bool) true (λ fn _ a=>Bool.rec (motive:=λ _=>Bool) false a (Aa fn)) l
def ada:∀{l:List Func},jQ l=true->∀fn∈l,Aa fn=true
 |[],_,_,h=>by cases h
 |a::l,h,fn,hm=>by
  have h:Bool.rec (motive:=λ _=>Bool) false (jQ l) (Aa a)=true:=h;cases e:Aa a;.rw[e]at h;cases h
  rw[e]at h;rcases ck.1 hm with rfl|hm
  .exact e
  exact ada h fn hm
theorem av8{P:Program}(h:∀fn∈P.funcs.toList,Aa fn=true):sK P:=λ f fn c y q=>by
 have a:fn∈P.funcs.toList:=by grind
 have:=h fn a;unfold Aa at this;rw[q]at this;exact this
section
open Go.Proofs
def aK:jQ ((Tryz.prog.funcs.toList.drop 0).take 20)=true:=by kernel_rfl
def lf:jQ ((Tryz.prog.funcs.toList.drop 20).take 20)=true:=by kernel_rfl
def bU:jQ ((Tryz.prog.funcs.toList.drop 40).take 20)=true:=by kernel_rfl
def st3:jQ ((Tryz.prog.funcs.toList.drop 60).take 20)=true:=by kernel_rfl
def st4:jQ ((Tryz.prog.funcs.toList.drop 80).take 20)=true:=by kernel_rfl
def Pk:jQ ((Tryz.prog.funcs.toList.drop 100).take 20)=true:=by kernel_rfl
def QD:jQ ((Tryz.prog.funcs.toList.drop 120).take 20)=true:=by kernel_rfl
def st7:jQ ((Tryz.prog.funcs.toList.drop 140).take 20)=true:=by kernel_rfl
def st8:jQ ((Tryz.prog.funcs.toList.drop 160).take 20)=true:=by kernel_rfl
def st9:jQ ((Tryz.prog.funcs.toList.drop 180).take 20)=true:=by kernel_rfl
def ak5:jQ ((Tryz.prog.funcs.toList.drop 200).take 20)=true:=by kernel_rfl
def aj3:jQ ((Tryz.prog.funcs.toList.drop 220).take 20)=true:=by kernel_rfl
def ajR:jQ ((Tryz.prog.funcs.toList.drop 240).take 20)=true:=by kernel_rfl
def aos:jQ ((Tryz.prog.funcs.toList.drop 260).take 20)=true:=by kernel_rfl
def atQ:jQ ((Tryz.prog.funcs.toList.drop 280).take 20)=true:=by kernel_rfl
def ava:jQ ((Tryz.prog.funcs.toList.drop 300).take 20)=true:=by kernel_rfl
def awp:jQ ((Tryz.prog.funcs.toList.drop 320).take 20)=true:=by kernel_rfl
def ana:jQ ((Tryz.prog.funcs.toList.drop 340).take 20)=true:=by kernel_rfl
def amk:jQ ((Tryz.prog.funcs.toList.drop 360).take 20)=true:=by kernel_rfl
def atS:jQ ((Tryz.prog.funcs.toList.drop 380).take 20)=true:=by kernel_rfl
def arL:jQ ((Tryz.prog.funcs.toList.drop 400).take 20)=true:=by kernel_rfl
def axF:jQ ((Tryz.prog.funcs.toList.drop 420).take 20)=true:=by kernel_rfl
def adO{l:List Func}{n:Nat}:∀(k:Nat),l.length<=k*n->(∀j,j<k->jQ ((l.drop (j*n)).take n)=true)->∀fn∈l,Aa fn=true
 |0,y,_,fn,a=>by have:l=[]:=km (by omega);rw[this]at a;cases a
 |k+1,y,h,fn,a=>by
  by_cases A:fn∈l.take (k*n)
  .refine adO (l:=l.take (k*n)) (n:=n) k (by simp;omega) (λ j J=>?_) fn A;have F:j*n+n<=k*n:=by have:=mQ n (show j+1<=k by omega);rw[jR]at this;omega
   rw[zG,aEa,Nu (by omega)];exact h j (by omega)
  have G:fn∈l.drop (k*n):=by
   rw[<-BC (k*n) l]at a;rcases jA.1 a with q|q
   .exact absurd q A
   exact q
  have D:=h k (by omega);rw[mB (by rw[xz];rw[jR]at y;omega)]at D;exact ada D fn G
def ami:Tryz.prog.funcs.toList.length=440:=by kernel_rfl
def ER:sK Tryz.prog:=av8 (adO (n:=20) 22 (by rw[ami];decide) (λ j a=>by
 match j,a with
 |0,_=>exact aK
 |1,_=>exact lf
 |2,_=>exact bU
 |3,_=>exact st3
 |4,_=>exact st4
 |5,_=>exact Pk
 |6,_=>exact QD
 |7,_=>exact st7
 |8,_=>exact st8
 |9,_=>exact st9
 |10,_=>exact ak5
 |11,_=>exact aj3
 |12,_=>exact ajR
 |13,_=>exact aos
 |14,_=>exact atQ
 |15,_=>exact ava
 |16,_=>exact awp
 |17,_=>exact ana
 |18,_=>exact amk
 |19,_=>exact atS
 |20,_=>exact arL
 |21,_=>exact axF
 |j+22,h=>omega))
end
end
end Go.Abs
