/- The static check. -/
import Derived.Test.YtkhnencepibcpaaGreatSh
import Derived.Test.YtkhnencepibcpaaGreatS
import Derived.Test.YtkhnencepibcpaaGreatProg
import Derived.KernelRfl
set_option linter.all false
namespace Go.Abs
noncomputable section
open Go Go.Proofs
def Hi(fn:Func):Bool:=Option.rec (motive:=λ _=>Bool) true (λ c=>uP c) fn.body
def om(l:List Func):Bool:=List.rec (motive:=λ _=>Bool) true (λ fn _ u=>Bool.rec (motive:=λ _=>Bool) false u (Hi fn)) l
def apu:∀{l:List Func},om l=true->∀fn∈l,Hi fn=true
 |[],_,_,h=>by cases h
 |a::l,h,fn,hm=>by
  have h:Bool.rec false _ _=true:=h;cases e:Hi a;.rw[e]at h;cases h
  rw[e]at h;rcases cg.1 hm with rfl|hm
  .exact e
  exact apu h fn hm
theorem aCE{P:aA}(h:∀fn∈P.funcs.toList,Hi fn=true):xW P:=λ f fn c y u=>by
 have hm:fn∈P.funcs.toList:=by grind
 have:=h fn hm;unfold Hi at this;rw[u]at this;exact this
def bF:om ((Tryz.prog.funcs.toList.drop 0).take 20)=true:=aH
def iz:om ((Tryz.prog.funcs.toList.drop 20).take 20)=true:=aH
def dp:om ((Tryz.prog.funcs.toList.drop 40).take 20)=true:=aH
def st3:om ((Tryz.prog.funcs.toList.drop 60).take 20)=true:=aH
def st4:om ((Tryz.prog.funcs.toList.drop 80).take 20)=true:=aH
def M0:om ((Tryz.prog.funcs.toList.drop 100).take 20)=true:=aH
def Fj:om ((Tryz.prog.funcs.toList.drop 120).take 20)=true:=aH
def LW:om ((Tryz.prog.funcs.toList.drop 140).take 20)=true:=aH
def st8:om ((Tryz.prog.funcs.toList.drop 160).take 20)=true:=aH
def st9:om ((Tryz.prog.funcs.toList.drop 180).take 20)=true:=aH
def Nl:om ((Tryz.prog.funcs.toList.drop 200).take 20)=true:=aH
def aqw:om ((Tryz.prog.funcs.toList.drop 220).take 20)=true:=aH
def WV:om ((Tryz.prog.funcs.toList.drop 240).take 20)=true:=aH
def auw:om ((Tryz.prog.funcs.toList.drop 260).take 20)=true:=aH
def auD:om ((Tryz.prog.funcs.toList.drop 280).take 20)=true:=aH
def aup:om ((Tryz.prog.funcs.toList.drop 300).take 20)=true:=aH
def ayf:om ((Tryz.prog.funcs.toList.drop 320).take 20)=true:=aH
def azH:om ((Tryz.prog.funcs.toList.drop 340).take 20)=true:=aH
def ase:om ((Tryz.prog.funcs.toList.drop 360).take 20)=true:=aH
def aHp:om ((Tryz.prog.funcs.toList.drop 380).take 20)=true:=aH
def asg:om ((Tryz.prog.funcs.toList.drop 400).take 20)=true:=aH
def ajB{l:List Func}{n:Nat}:∀(k:Nat),l.length<=k*n->(∀j,j<k->om ((l.drop (j*n)).take n)=true)->∀fn∈l,Hi fn=true
 |0,y,_,fn,hm=>by have:l=[]:=mF aa;rw[this]at hm;cases hm
 |k+1,y,h,fn,hm=>by
  by_cases A:fn∈l.take (k*n)
  .refine ajB (l:=l.take (k*n)) (n:=n) k gD (λ j J=>?_) fn A;have D:j*n+n<=k*n:=by have:=uI n (aa:j+1<=k);rw[qO]at this;omega
   rw[Ev,List.take_take,Ow aa];exact h j aa
  have F:fn∈l.drop (k*n):=by
   rw[<-Hd (k*n) l]at hm;rcases wa.1 hm with u|u
   .exact absurd u A
   exact u
  have h1:=h k aa;rw[mT (by rw[UM];rw[qO]at y;omega)]at h1;exact apu h1 fn F
def aAH:Tryz.prog.funcs.toList.length=412:=aH
def ab8:xW Tryz.prog:=aCE (ajB (n:=20) 21 (by rw[aAH];decide) (λ j u=>by
 match j,u with
 |0,_=>exact bF
 |1,_=>exact iz
 |2,_=>exact dp
 |3,_=>exact st3
 |4,_=>exact st4
 |5,_=>exact M0
 |6,_=>exact Fj
 |7,_=>exact LW
 |8,_=>exact st8
 |9,_=>exact st9
 |10,_=>exact Nl
 |11,_=>exact aqw
 |12,_=>exact WV
 |13,_=>exact auw
 |14,_=>exact auD
 |15,_=>exact aup
 |16,_=>exact ayf
 |17,_=>exact azH
 |18,_=>exact ase
 |19,_=>exact aHp
 |20,_=>exact asg
 |j+21,h=>omega))
def bQ{l:dG}{S:uo}(h:bm l)(h1:S.ok 0=true:=by kernel_rfl)(h2:QM S.res (P1 l S.f S.args S.H)=true:=by kernel_rfl):bm (S::l):=λ Xqq u=>by
 rcases cg.1 u with rfl|u
 .exact aFf ab8 h h1 h2
 exact h Xqq u
end
end Go.Abs
