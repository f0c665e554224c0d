/- The abstract machine: an evaluator over rows and its relation to the model. -/
import Derived.Test.YtkencjbbibdamaaGreatDoorBase
import Derived.WalkKit
import Derived.Laws.StructEq
set_option linter.all false
namespace Go.Abs
noncomputable section
variable{B at_ b hi i lo n ng off sz v:Nat}{C:Array Value}{a:Act}{e t ty u:TypeId}{aC fam':Nat->Option (List Nat)}{fz:Nat×Nat}{h:Array Obj}{o:Oper}{p q:Value}{r:Bool}{ts:Array TypeId}{w':World}{xs:List Value}{α:Type}
inductive aa where
 |bool (b:Bool)
 |int (k:IntKind) (n:Int)
 |str (s:List UInt8)
 |nilPtr
 |ptr (v off:Nat)
 |ai
 |slice (v off len:Nat) (lim:Option Nat)
 |dq
 |nilFunc
 |iface
 |func (f:FuncId) (first cap:List aa)
 |agg (cs:List aa)
 |tuple (vs:List aa)
def aa.cells:aa->List aa
 |.agg cs=>cs
 |v=>[v]
def aa.eh:aa->Bool
 |.agg _=>false
 |.tuple _=>false
 |_=>true
inductive Tr (α:Type)where
 |nil
 |node (v:Option α) (l r:Tr α)
def Tr.get{α:Type}(t:Tr α):Nat->Option α:=Tr.rec (motive:=λ _=>Nat->Option α) (λ _=>none) (λ v _ _ gl gr i=>Bool.rec (motive:=λ _=>Option α) (Bool.rec (motive:=λ _=>Option α) (gr (Nat.sub (Nat.div i 2) 1)) (gl (Nat.div i 2)) (Nat.beq (Nat.mod i 2) 1)) v (Nat.beq i 0)) t
def Tr.single{α:Type}(d:Nat):Nat->Option α->Tr α:=Nat.rec (motive:=λ _=>Nat->Option α->Tr α) (λ _ x=>.node x .nil .nil) (λ _ y i x=>Bool.rec (motive:=λ _=>Tr α) (Bool.rec (motive:=λ _=>Tr α) (.node none .nil (y (Nat.sub (Nat.div i 2) 1) x)) (.node none (y (Nat.div i 2) x) .nil) (Nat.beq (Nat.mod i 2) 1)) (.node x .nil .nil) (Nat.beq i 0)) d
def Tr.set{α:Type}(t:Tr α):Nat->Option α->Tr α:=Tr.rec (motive:=λ _=>Nat->Option α->Tr α) (λ i x=>Tr.single i i x) (λ v l r sl y i x=>Bool.rec (motive:=λ _=>Tr α) (Bool.rec (motive:=λ _=>Tr α) (.node v l (y (Nat.sub (Nat.div i 2) 1) x)) (.node v (sl (Nat.div i 2) x) r) (Nat.beq (Nat.mod i 2) 1)) (.node x l r) (Nat.beq i 0)) t
structure Row where
 cells:List aa
 aC:Nat
 start:Nat
 exact:Bool
 ro:Bool
 sz:Nat
structure ah where
 objs:Tr Row
 aG:Tr (List Nat)
 next:Nat
def aw(T:Tr aa)(i:Nat):aa:=Option.rec (motive:=λ _=>aa) (.tuple []) (λ v=>v) (T.get i)
def cG(n:Nat)(T:Tr aa)(d:Option Tmp)(v:aa):Tr aa:=Option.rec (motive:=λ _=>Tr aa) T (λ d=>Bool.rec (motive:=λ _=>Tr aa) T (T.set d (some v)) (Nat.ble (Nat.succ d) n)) d
def HK:Value->Option aa
 |.bool b=>some (.bool b)
 |.int k n=>some (.int k n)
 |.string s=>some (.str s.data.toList)
 |.pointer none=>some .nilPtr
 |.slice none 0 0=>some .ai
 |.nilFunc=>some .nilFunc
 |.func (.func f) ⟨[]⟩ ⟨[]⟩=>some (.func f [] [])
 |_=>none
def Dz:List Value->Option (List aa)
 |[]=>some []
 |v::vs=>match HK v,Dz vs with
  |some a,some l=>some (a::l)
  |_,_=>none
def ofValue:Value->Option aa
 |.agg cs=>match Dz cs.toList with|some l=>some (.agg l)|none=>none
 |.tuple cs=>match Dz cs.toList with|some l=>some (.tuple l)|none=>none
 |v=>HK v
def aU(ng:Nat)(T:Tr aa)(x:Operand):Option aa:=Operand.rec (motive:=λ _=>Option aa) (λ t=>some (aw T t)) (λ v=>ofValue v) (λ g=>Bool.rec (motive:=λ _=>Option aa) none (some (.ptr g 0)) (Nat.ble (Nat.succ g) ng)) (λ f=>some (.func f [] [])) x
def zr:Option aa->Option (List aa)->Option (List aa)
 |some a,some l=>some (a::l)
 |_,_=>none
def jo(ng:Nat)(T:Tr aa)(l:List Operand):Option (List aa):=List.rec (motive:=λ _=>Option (List aa)) (some []) (λ x _ y=>zr (aU ng T x) y) l
def alloc(H:ah)(cells:List aa)(exact:Bool)(sz:Nat):ah:={objs:=H.objs.set H.next (some {cells,aC:=H.next,start:=0,exact,ro:=false,sz}),aG:=H.aG.set H.next (some [H.next]),next:=H.next+1}
def ep(cs:List aa)(off:Nat)(new:List aa):List aa:=cs.take off++new++cs.drop (off+new.length)
def jF(objs:Tr Row)(v lo hi:Nat):List Nat->Tr Row
 |[]=>objs
 |u::us=>
  match Nat.beq u v with
  |true=>jF objs v lo hi us
  |false=>
   match objs.get u with
   |none=>jF objs v lo hi us
   |some r=>
    match Nat.ble hi r.start,Nat.ble (r.start+r.cells.length) lo with
    |false,false=>jF (objs.set u none) v lo hi us
    |_,_=>jF objs v lo hi us
def mG(objs:Tr Row)(lo:Nat):List Nat->Tr Row
 |[]=>objs
 |u::us=>
  match objs.get u with
  |none=>mG objs lo us
  |some r=>
   match Nat.ble (r.start+r.cells.length) lo with
   |true=>mG objs lo us
   |false=>mG (objs.set u none) lo us
def gM(H:ah)(v off:Nat)(new:List aa):Option ah:=
 match H.objs.get v with
 |none=>none
 |some r=>
  match r.ro,Nat.ble (off+new.length) r.cells.length,new.all aa.eh,H.aG.get r.aC with
  |false,true,true,some mem=>some {H with objs:=(jF H.objs v (r.start+off) (r.start+off+new.length) mem).set v (some {r with cells:=ep r.cells off new})}
  |_,_,_,_=>none
def bq(g:Nat->Option Row)(v off n:Nat):Option (List aa):=
 match g v with
 |none=>none
 |some r=>
  match Nat.ble (off+n) r.cells.length with
  |true=>some ((r.cells.drop off).take n)
  |false=>none
def CY:TypeDesc->Bool
 |.struct _=>true
 |.array _ _=>true
 |_=>false
def de(P:Program)(g:Nat->Option Row)(t:TypeId):aa->Option aa
 |.ptr v off=>
  match P.underlying t,P.info? t with
  |some d,some i=>
   match CY d with
   |true=>match bq g v off i.size with|some cs=>some (.agg cs)|none=>none
   |false=>match bq g v off 1 with|some (c::_)=>some c|_=>none
  |_,_=>none
 |_=>none
def dJ(P:Program)(H:ah)(t:TypeId)(x y:aa):Option ah:=
 match x,P.info? t with
 |.ptr v off,some i=>
  match Nat.beq y.cells.length i.size with
  |true=>gM H v off y.cells
  |false=>none
 |_,_=>none
def eR(g:Nat->Option Row)(sz n:Nat):aa->Option (List aa)
 |.ai=>match Nat.beq n 0 with|true=>some []|false=>none
 |.dq=>match Nat.beq n 0 with|true=>some []|false=>none
 |.slice v off len _=>match Nat.ble n len with|true=>bq g v off (n*sz)|false=>none
 |_=>none
def lenOf:aa->Option Nat
 |.ai=>some 0
 |.dq=>some 0
 |.slice _ _ n _=>some n
 |_=>none
def hY(g:Nat->Option Row)(sz:Nat):aa->Option (Bool×Nat)
 |.ai=>some (true,0)
 |.slice _ _ _ (some c)=>some (true,c)
 |.slice v off _ none=>
  match g v with
  |some r=>match Nat.beq r.sz sz,Nat.ble off r.cells.length with
   |true,true=>some (r.exact,(r.cells.length-off)/sz)
   |_,_=>none
  |none=>none
 |_=>none
def kh(z:List aa):Nat->List aa
 |0=>[]
 |n+1=>z++kh z n
def eJ:Nat:=1099511627776
def gm(H:ah)(sz bytes:Nat)(s:aa)(n:Nat)(new:List aa):Option (aa×ah):=
 match lenOf s,hY H.objs.get sz s with
 |some y,some (ex,c)=>
  match Nat.ble (y+n) c with
  |true=>
   match s with
   |.ai=>some (.ai,H)
   |.slice v off _ D=>match gM H v (off+y*sz) new with
    |some H'=>some (.slice v off (y+n) D,H')
    |none=>none
   |_=>none
  |false=>
   match eR H.objs.get sz y s,Nat.ble ((y+n)*bytes) eJ&&Nat.ble (y+n) eJ with
   |some A,true=>
    match ex with
    |true=>some (.slice H.next 0 (y+n) none,alloc H (A++new) false sz)
    |false=>
     match s with
     |.slice v off _ none=>
      match H.objs.get v with
      |some r=>
       match r.ro,new.all aa.eh,H.aG.get r.aC with
       |false,true,some mem=>some (.slice H.next 0 (y+n) none,{objs:=(mG H.objs (r.start+off+y*sz) mem).set H.next (some {cells:=A++new,aC:=r.aC,start:=r.start+off,exact:=false,ro:=false,sz}),aG:=H.aG.set r.aC (some (H.next::mem)),next:=H.next+1})
       |_,_,_=>none
      |none=>none
     |_=>none
   |_,_=>none
 |_,_=>none
def mb(x:Option aa)(d:Nat):Option Nat:=
 match x with
 |none=>some d
 |some (.int _ n)=>match n with|.ofNat m=>some m|.negSucc _=>none
 |some _=>none
def jY(P:Program)(g:Nat->Option Row)(t:TypeId)(x:aa)(lo hi:Option aa):Option aa:=
 match P.underlying t,x with
 |some .string,.str s=>
  match mb lo 0,mb hi s.length with
  |some l,some h=>
   match Nat.ble l h,Nat.ble h s.length with
   |true,true=>some (.str ((s.drop l).take (h-l)))
   |_,_=>none
  |_,_=>none
 |some (.slice e),.ai=>
  match mb lo 0,mb hi 0 with
  |some 0,some 0=>match P.info? e with|some _=>some .ai|none=>none
  |_,_=>none
 |some (.slice e),.dq=>
  match mb lo 0,mb hi 0 with
  |some 0,some 0=>match P.info? e with|some _=>some .dq|none=>none
  |_,_=>none
 |some (.slice e),.slice v off 0 y=>
  match mb lo 0,mb hi 0 with
  |some 0,some 0=>match P.info? e with|some _=>some (.slice v off 0 y)|none=>none
  |_,_=>none
 |some (.slice e),.slice v off len y=>
  match P.info? e with
  |none=>none
  |some i=>
   match hY g i.size x,mb lo 0,mb hi len with
   |some (ex,c),some l,some h=>
    match Nat.ble l h,Nat.ble h c with
    |true,true=>
     match y with
     |some c=>some (.slice v (match Nat.beq c l with|true=>off|false=>off+l*i.size) (h-l) (some (c-l)))
     |none=>
      match Nat.ble (l+1) c,Nat.beq l 0 with
      |true,_=>some (.slice v (off+l*i.size) (h-l) none)
      |false,true=>some (.slice v off (h-l) none)
      |false,false=>
       match ex with
       |true=>some (.slice v off 0 (some 0))
       |false=>some .dq
    |_,_=>none
   |_,_,_=>none
 |_,_=>none
def C0(P:Program)(fs:Array Field)(i:Nat):Option (Nat×Nat):=
 match fs.toList[i]?with
 |some f=>match P.info? f.type with|some j=>some (f.offset,j.size)|none=>none
 |none=>none
def fill(y:Nat->Option (Nat×Nat))(cells:List aa):List (Nat×aa)->Option (List aa)
 |[]=>some cells
 |(i,v)::rest=>
  match y i with
  |none=>none
  |some (off,size)=>
   match Nat.beq v.cells.length size,Nat.ble (off+v.cells.length) cells.length with
   |true,true=>fill y (ep cells off v.cells) rest
   |_,_=>none
def my(ng:Nat)(T:Tr aa):List (Nat×Operand)->Option (List (Nat×aa))
 |[]=>some []
 |(i,x)::xs=>match aU ng T x,my ng T xs with
  |some a,some l=>some ((i,a)::l)
  |_,_=>none
def ig(P:Program)(t:TypeId):Option aa:=
 match P.info? t with
 |some i=>match i.zero with|some z=>ofValue z|none=>none
 |none=>none
def qo:Sem Value->Option aa
 |.pure v=>HK v
 |_=>none
def nQ(P:Program):List Field->List aa->List aa->Option Bool
 |[],[],[]=>some true
 |f::fs,.int k a::xs,.int A b::y=>
  match P.underlying f.type,decide (k=A)with
  |some (.int _),true=>match decide (a=b)with|true=>nQ P fs xs y|false=>some false
  |_,_=>none
 |f::fs,.bool a::xs,.bool b::y=>
  match P.underlying f.type with
  |some .bool=>match a==b with|true=>nQ P fs xs y|false=>some false
  |_=>none
 |_,_,_=>none
def ET(P:Program):Nat->List Field->Bool
 |_,[]=>true
 |k,f::fs=>(match P.underlying f.type with|some (.int _)=>true|some .bool=>true|_=>false)&&Nat.beq f.offset k&&(f.name != "_")&&ET P (k+1) fs
def qb(P:Program)(t:TypeId)(x y:aa):Option Bool:=
 match P.underlying t,x,y with
 |some .bool,.bool a,.bool b=>some (a==b)
 |some (.slice _),.ai,.ai=>some true
 |some (.slice _),.ai,.slice .. =>some false
 |some (.slice _),.slice ..,.ai=>some false
 |some (.slice _),.ai,.dq=>some false
 |some (.slice _),.dq,.ai=>some false
 |some (.pointer _),.nilPtr,.nilPtr=>some true
 |some (.pointer _),.nilPtr,.ptr .. =>some false
 |some (.pointer _),.ptr ..,.nilPtr=>some false
 |some (.func ..),.nilFunc,.nilFunc=>some true
 |some (.func ..),.nilFunc,.func .. =>some false
 |some (.func ..),.func ..,.nilFunc=>some false
 |some (.struct fs),.agg xs,.agg A=>
  match P.stoodInHeld t,P.eqGuardType P.depth t,ET P 0 fs.toList,Nat.beq xs.length fs.toList.length,Nat.beq A.length fs.toList.length with
  |false,false,true,true,true=>nQ P fs.toList xs A
  |_,_,_,_,_=>none
 |_,_,_=>none
def cV(P:Program)(A:BinOp)(t:TypeId)(x y:aa):Option aa:=
 match x,y with
 |.int k a,.int D b=>qo (Go.binOp A t (.int k a) (.int D b))
 |.str a,.str b=>qo (Go.binOp A t (.string ⟨⟨a⟩⟩) (.string ⟨⟨b⟩⟩))
 |_,_=>
  match A with
  |.eql=>match qb P t x y with|some b=>some (.bool b)|none=>none
  |.neq=>match qb P t x y with|some b=>some (.bool !b)|none=>none
  |_=>none
def Ee(y:UnOp)(x:aa):Option aa:=
 match x with
 |.int k n=>qo (Op.unary y (.int k n))
 |.bool b=>qo (Op.unary y (.bool b))
 |_=>none
abbrev aW:=FuncId->List aa->ah->Option (aa×ah)
def ir(P:Program)(Z7:aW)(f:FuncId)(args:List aa)(H:ah):Option (aa×ah):=
 match P.funcs[f]?with
 |some fn=>
  match fn.body,fn.name== "runtime.NumGoroutine" with
  |some _,false=>Z7 f args H
  |_,_=>none
 |none=>none
def dD(P:Program)(t:TypeId)(x:aa):Option aa:=
 match P.underlying t,x with
 |some .string,.str s=>some (.int .i64 s.length)
 |some (.slice _),.ai=>some (.int .i64 (0:Nat))
 |some (.slice _),.dq=>some (.int .i64 (0:Nat))
 |some (.slice _),.slice _ _ n _=>some (.int .i64 n)
 |some (.array n _),_=>some (.int .i64 n)
 |_,_=>none
def zm(P:Program)(g:Nat->Option Row)(t:TypeId)(x:aa):Option aa:=
 match P.underlying t with
 |some (.slice e)=>
  match P.info? e with
  |some i=>match hY g i.size x with|some (true,c)=>some (.int .i64 c)|_=>none
  |none=>none
 |_=>none
def jM(P:Program)(H:ah)(ts:List TypeId)(args:List aa):Option (aa×ah):=
 match ts,args with
 |[t,u],[s,x]=>
  match P.underlying t,P.underlying u with
  |some (.slice e),some y=>
   match P.info? e with
   |some i=>
    match Nat.beq i.size 0,ig P e with
    |false,some z=>
     match Nat.beq z.cells.length i.size,y,x with
     |true,.int _,.int _ (.ofNat n)=>match Nat.ble (n*i.bytes) eJ,Nat.ble n eJ&&Nat.ble 1 n with|true,true=>gm H i.size i.bytes s n (kh z.cells n)|_,_=>none
     |true,.slice _,_=>
      match lenOf x with
      |some n=>match eR H.objs.get i.size n x with|some new=>gm H i.size i.bytes s n new|none=>none
      |none=>none
     |_,_,_=>none
    |_,_=>none
   |none=>none
  |_,_=>none
 |_,_=>none
def fZ(H:ah):Option aa->Option (aa×ah)
 |some v=>some (v,H)
 |none=>none
def gv(P:Program)(s:TypeId)(x:aa)(f:Nat):Option aa:=
 match P.underlying s,x with
 |some (.struct fs),.ptr v off=>
  match fs.toList[f]?with
  |some y=>match P.info? y.type with
   |some i=>match Nat.beq i.size 0 with|false=>some (.ptr v (off+y.offset))|true=>none
   |none=>none
  |none=>none
 |_,_=>none
def iM(P:Program)(t:TypeId)(x ix:aa):Option aa:=
 match P.underlying t,x,ix with
 |some (.array len e),.ptr v off,.int _ (.ofNat i)=>
  match Nat.ble (i+1) len,P.info? e with
  |true,some j=>some (.ptr v (off+i*j.size))
  |_,_=>none
 |some (.slice e),.slice v off len _,.int _ (.ofNat i)=>
  match Nat.ble (i+1) len,P.info? e with
  |true,some j=>some (.ptr v (off+i*j.size))
  |_,_=>none
 |_,_,_=>none
def yp(P:Program)(t:TypeId)(x ix:aa):Option aa:=
 match P.underlying t,x,ix with
 |some .string,.str s,.int _ (.ofNat i)=>match s[i]?with|some b=>some (.int .u8 b.toNat)|none=>none
 |_,_,_=>none
def dj:Op->Nat
 |.load .. =>1
 |.slice .. =>1
 |.alloc _=>2
 |.box .. =>2
 |.buildSlice .. =>2
 |.makeSlice .. =>2
 |.store .. =>3
 |.call {callee:=.builtin .len,..}=>0
 |.call {callee:=.builtin .min,..}=>0
 |.call {callee:=.builtin .max,..}=>0
 |.call {callee:=.builtin .cap,..}=>1
 |.call _=>3
 |_=>0
def vJ:Option aa->Option aa->Option aa->Option aa
 |some (.bool true),some x,some _=>some x
 |some (.bool false),some _,some y=>some y
 |_,_,_=>none
def lP(P:Program)(t:TypeId)(l:Option (List (Nat×aa))):Option aa:=
 match ig P t,P.underlying t,l with
 |some z,some (.struct fs),some l=>
  match fs.toList.all (λ f=>(P.info? f.type).isSome)with
  |true=>match fill (C0 P fs) z.cells l with|some cs=>some (.agg cs)|none=>none
  |false=>none
 |some (.agg cs),some (.array _ e),some []=>match P.info? e with|some _=>some (.agg cs)|none=>none
 |_,_,_=>none
def vM:Option aa->Option aa
 |some (.ptr v off)=>some (.ptr v off)
 |some (.func f a b)=>some (.func f a b)
 |_=>none
def xX(P:Program)(y:BinOp)(t:TypeId):Option aa->Option aa->Option aa
 |some a,some b=>cV P y t a b
 |_,_=>none
def yw(y:UnOp):Option aa->Option aa
 |some a=>Ee y a
 |none=>none
def rh(P:Program)(s d:TypeId)(x:Option aa):Option aa:=
 match P.underlying s,P.underlying d,x with
 |some _,some (.int k),some (.int _ n)=>some (.int k (k.wrap n))
 |_,_,_=>none
def Be(f:FuncId):Option (List aa)->Option (List aa)->Option aa
 |some a,some b=>some (.func f a b)
 |_,_=>none
def xQ(P:Program)(s:TypeId)(f:Nat):Option aa->Option aa
 |some a=>gv P s a f
 |none=>none
def zd(P:Program)(t:TypeId):Option aa->Option aa->Option aa
 |some a,some i=>iM P t a i
 |_,_=>none
def yB(P:Program)(t:TypeId):Option aa->Option aa->Option aa
 |some a,some i=>yp P t a i
 |_,_=>none
def yI(i:Nat):Option aa->Option aa
 |some (.tuple vs)=>vs[i]?
 |_=>none
def wm(P:Program)(ng:Nat)(T:Tr aa)(c:Call):Option aa:=
 match c.callee,c.argTypes.toList,c.args.toList with
 |.builtin .len,t::_,[x]=>match aU ng T x with|some a=>dD P t a|none=>none
 |.builtin .min,_,[x,y]=>match aU ng T x,aU ng T y with|some (.int k a),some (.int _ b)=>some (.int k (if b<a then b else a))|_,_=>none
 |.builtin .max,_,[x,y]=>match aU ng T x,aU ng T y with|some (.int k a),some (.int _ b)=>some (.int k (if a<b then b else a))|_,_=>none
 |_,_,_=>none
def N2(ng:Nat)(T:Tr aa)(fn:Fn)(first cap:Array Operand):Option aa:=
 match fn with
 |.func f=>Be f (jo ng T first.toList) (jo ng T cap.toList)
 |_=>none
def kP(P:Program)(ng:Nat)(T:Tr aa):Op->Option aa
 |.move x=>aU ng T x
 |.assign x=>aU ng T x
 |.pick c a b=>vJ (aU ng T c) (aU ng T a) (aU ng T b)
 |.build t ps=>lP P t (my ng T ps.toList)
 |.nilCheck x=>vM (aU ng T x)
 |.binOp A t x y _=>xX P A t (aU ng T x) (aU ng T y)
 |.unOp A _ x=>yw A (aU ng T x)
 |.convert s d x=>rh P s d (aU ng T x)
 |.makeFunc fn first cap=>N2 ng T fn first cap
 |.fieldAddr s x f=>xQ P s f (aU ng T x)
 |.indexAddr t x ix=>zd P t (aU ng T x) (aU ng T ix)
 |.index t x ix=>yB P t (aU ng T x) (aU ng T ix)
 |.extract x i=>yI i (aU ng T x)
 |.call c=>wm P ng T c
 |_=>none
def nK(ng:Nat)(T:Tr aa):Option Operand->Option (Option aa)
 |none=>some none
 |some x=>match aU ng T x with|some a=>some (some a)|none=>none
def sj(P:Program)(g:Nat->Option Row)(t:TypeId):Option aa->Option aa
 |some x=>de P g t x
 |none=>none
def rW(P:Program)(g:Nat->Option Row)(t:TypeId):Option aa->Option (Option aa)->Option (Option aa)->Option Operand->Option aa
 |some a,some l,some h,none=>jY P g t a l h
 |_,_,_,_=>none
def we(P:Program)(ng:Nat)(T:Tr aa)(g:Nat->Option Row)(c:Call):Option aa:=
 match c.callee,c.argTypes.toList,c.args.toList with
 |.builtin .cap,t::_,[x]=>match aU ng T x with|some a=>zm P g t a|none=>none
 |_,_,_=>none
def dP(P:Program)(ng:Nat)(T:Tr aa)(g:Nat->Option Row):Op->Option aa
 |.load t a=>sj P g t (aU ng T a)
 |.slice t x lo hi mx=>rW P g t (aU ng T x) (nK ng T lo) (nK ng T hi) mx
 |.call c=>we P ng T g c
 |_=>none
def pW:Option aa->Option (List aa×Nat×Option Nat)
 |some z=>some (z.cells,1,none)
 |none=>none
def nM(P:Program)(t:TypeId)(len:Nat)(l:Option (List (Nat×aa))):Option (List aa×Nat×Option Nat):=
 match P.underlying t,l with
 |some (.slice e),some l=>
  match P.info? e,ig P e with
  |some i,some z=>
   match Nat.beq z.cells.length i.size,Nat.beq i.size 0,Nat.ble (len*i.size) 16777216 with
   |true,false,true=>
    match fill (λ j=>some (j*i.size,i.size)) (kh z.cells len) l with
    |some cs=>some (cs,i.size,some len)
    |none=>none
   |_,_,_=>none
  |_,_=>none
 |_,_=>none
def wQ(P:Program)(t:TypeId)(l c:Option aa):Option (List aa×Nat×Option Nat):=
 match P.underlying t,l,c with
 |some (.slice e),some (.int .i64 (.ofNat n)),some (.int .i64 (.ofNat m))=>
  match P.info? e,ig P e with
  |some i,some z=>
   match Nat.beq z.cells.length i.size,Nat.beq i.size 0,Nat.ble n m,Nat.ble (m*i.bytes) eJ,Nat.ble m eJ with
   |true,false,true,true,true=>some (kh z.cells m,i.size,some n)
   |_,_,_,_,_=>none
  |_,_=>none
 |_,_,_=>none
def so(P:Program)(ng:Nat)(T:Tr aa):Op->Option (List aa×Nat×Option Nat)
 |.alloc t=>pW (ig P t)
 |.box _ x=>pW (aU ng T x)
 |.buildSlice t len ps=>nM P t len (my ng T ps.toList)
 |.makeSlice t l c=>wQ P t (aU ng T l) (aU ng T c)
 |_=>none
def tf(id:Nat):Option Nat->aa
 |none=>.ptr id 0
 |some n=>.slice id 0 n none
def sF(P:Program)(H:ah)(t:TypeId):Option aa->Option aa->Option (aa×ah)
 |some p,some v=>match dJ P H t p v with|some H'=>some (.tuple [],H')|none=>none
 |_,_=>none
def tw(P:Program)(Z7:aW)(H:ah):Option aa->Option (List aa)->Option (aa×ah)
 |some (.func g first cap),some l=>ir P Z7 g (first++l++cap) H
 |_,_=>none
def yL(P:Program)(H:ah)(ts:List TypeId):Option (List aa)->Option (aa×ah)
 |some l=>jM P H ts l
 |none=>none
def qQ(P:Program)(ng:Nat)(Z7:aW)(T:Tr aa)(H:ah)(c:Call):Option (aa×ah):=
 match c.callee with
 |.value f=>tw P Z7 H (aU ng T f) (jo ng T c.args.toList)
 |.builtin .append=>yL P H c.argTypes.toList (jo ng T c.args.toList)
 |_=>none
def r9(P:Program)(ng:Nat)(Z7:aW)(T:Tr aa)(H:ah):Op->Option (aa×ah)
 |.store t a x=>sF P H t (aU ng T a) (aU ng T x)
 |.call c=>qQ P ng Z7 T H c
 |_=>none
def mX(H:ah):Option (List aa×Nat×Option Nat)->Option (aa×ah)
 |some (cs,sz,n)=>some (tf H.next n,alloc H cs true sz)
 |none=>none
def bK(P:Program)(ng:Nat)(Z7:aW)(T:Tr aa)(H:ah)(o:Op):Option (aa×ah):=
 match dj o with
 |0=>fZ H (kP P ng T o)
 |1=>fZ H (dP P ng T H.objs.get o)
 |2=>mX H (so P ng T o)
 |_=>r9 P ng Z7 T H o
def bJ(Z8:List Oper)(T:Tr aa)(o:Oper):Bool:=
 match o.guard with
 |none=>true
 |some (j,want)=>
  match Z8[j]?with
  |some y=>match y.dst with
   |some d=>match aw T d with
    |.bool b=>b==want
    |_=>false
   |none=>false
  |none=>false
def eQ(P:Program)(ng:Nat)(Z7:aW)(n:Nat)(Z8:List Oper)(l:List Oper):Tr aa->ah->Option (Tr aa×ah):=List.rec (motive:=λ _=>Tr aa->ah->Option (Tr aa×ah)) (λ T H=>some (T,H)) (λ o _ y T H=>Bool.rec (motive:=λ _=>Option (Tr aa×ah)) (y (cG n T o.dst (.tuple [])) H) (Option.rec (motive:=λ _=>Option (Tr aa×ah)) none (λ r=>y (cG n T o.dst r.1) r.2) (bK P ng Z7 T H o.op)) (bJ Z8 T o)) l
def tb(m i:Nat):Bool:=Nat.beq (Nat.mod (Nat.shiftRight m i) 2) 1
mutual
noncomputable def dZ:aa->aa->Bool
 |.bool a,.bool b=>a==b
 |.int j a,.int k b=>decide (j=k)&&decide (a=b)
 |.str a,.str b=>decide (a=b)
 |.nilPtr,.nilPtr=>true
 |.ptr v o,.ptr v' o'=>Nat.beq v v'&&Nat.beq o o'
 |.ai,.ai=>true
 |.slice v o n l,.slice v' o' n' l'=>Nat.beq v v'&&Nat.beq o o'&&Nat.beq n n'&&decide (l=l')
 |.dq,.dq=>true
 |.nilFunc,.nilFunc=>true
 |.iface,.iface=>true
 |.func f a b,.func f' a' b'=>Nat.beq f f'&&qG a a'&&qG b b'
 |.agg a,.agg b=>qG a b
 |.tuple a,.tuple b=>qG a b
 |_,_=>false
noncomputable def qG:List aa->List aa->Bool
 |[],[]=>true
 |a::Z9,b::bs=>dZ a b&&qG Z9 bs
 |_,_=>false
end
structure eX where
 cA:List Nat
 es:List (Nat×Tr Row)
 rs:List (Nat×Tr aa×Op×aa)
def sW(i:Nat)(T:Tr aa)(o:Op)(S:eX)(v:aa):eX:={S with rs:=(i,T,o,v)::S.rs}
def HM(i:Nat)(S:eX):eX:={S with cA:=i::S.cA}
def Bc(i:Nat)(S:eX)(H:ah):eX:={S with cA:=i::S.cA,es:=(i,H.objs)::S.es}
def qJ(y:Nat)(l:List Nat):Bool:=List.rec (motive:=λ _=>Bool) true (λ a _ A=>Bool.rec (motive:=λ _=>Bool) false A (tb y a)) l
def ib(y i:Nat)(T:Tr aa)(o:Op)(S:eX)(r:aa×ah):Option eX:=
 match dj o with
 |0=>some S
 |1=>some (sW i T o S r.1)
 |2=>some (HM i S)
 |_=>match qJ y S.cA with|true=>some (Bc i S r.2)|false=>none
def gF(P:Program)(ng:Nat)(Z7:aW)(n:Nat)(Z8:List Oper)(y:Nat->Nat)(l:List Oper):Nat->eX->Tr aa->ah->Option (eX×Tr aa×ah):=List.rec (motive:=λ _=>Nat->eX->Tr aa->ah->Option (eX×Tr aa×ah)) (λ _ S T H=>some (S,T,H)) (λ o _ A i S T H=>Bool.rec (motive:=λ _=>Option (eX×Tr aa×ah)) (A (Nat.succ i) S (cG n T o.dst (.tuple [])) H) (Option.rec (motive:=λ _=>Option (eX×Tr aa×ah)) none (λ r=>Option.rec (motive:=λ _=>Option (eX×Tr aa×ah)) none (λ S'=>A (Nat.succ i) S' (cG n T o.dst r.1) r.2) (ib (y i) i T o.op S r)) (bK P ng Z7 T H o.op)) (bJ Z8 T o)) l
def qT(P:Program)(ng:Nat)(T:Tr aa)(g:Nat->Option Row)(o:Op)(v:aa):Bool:=
 match dP P ng T g o with
 |some x=>dZ x v
 |none=>false
def qx(P:Program)(ng:Nat)(y:Nat->Nat)(objs0:Tr Row)(j:Nat)(T:Tr aa)(o:Op)(v:aa)(es:List (Nat×Tr Row)):Option Nat->Bool:=
 List.rec (motive:=λ _=>Option Nat->Bool)
  (λ up=>(match up with|some e=>tb (y j) e|none=>false)||qT P ng T objs0.get o v)
  (λ e _ A up=>((match up with|some e'=>tb (y j) e'|none=>false)||tb (y e.1) j||qT P ng T e.2.get o v)&&A (some e.1)) es
def vd(P:Program)(ng:Nat)(y:Nat->Nat)(objs0:Tr Row)(es:List (Nat×Tr Row))(rs:List (Nat×Tr aa×Op×aa)):Bool:=List.rec (motive:=λ _=>Bool) true (λ r _ A=>qx P ng y objs0 r.1 r.2.1 r.2.2.1 r.2.2.2 es none&&A) rs
def nL(P:Program)(ng:Nat)(y:Nat->Nat)(objs0:Tr Row):Option (eX×Tr aa×ah)->Option (Tr aa×ah)
 |some (S,T,H)=>match vd P ng y objs0 S.es S.rs with|true=>some (T,H)|false=>none
 |none=>none
def cO(Z8:Array Oper):Nat->Nat:=λ i=>(Region.before Z8).getD i 0
def jn(P:Program)(ng:Nat)(Z7:aW)(n:Nat)(Z8:Array Oper)(T:Tr aa)(H:ah)(y:Bool):Option (Tr aa×ah):=
 match y with
 |false=>eQ P ng Z7 n Z8.toList Z8.toList T H
 |true=>nL P ng (cO Z8) H.objs (gF P ng Z7 n Z8.toList (cO Z8) Z8.toList 0 ⟨[],[],[]⟩ T H)
inductive eE where
 |normal
 |exit (id:Nat)
 |ret
abbrev mI:=eE×Tr aa×ah
def px:Option (Tr aa×ah)->Option mI
 |some (T,H)=>some (.normal,T,H)
 |none=>none
def iL(k:Tr aa->ah->Option mI):Option mI->Option mI
 |some (.normal,T,H)=>k T H
 |r=>r
def mq(x y:Option mI):Option aa->Option mI
 |some (.bool true)=>x
 |some (.bool false)=>y
 |_=>none
def kR(id:Nat):Option mI->Option mI
 |some (.exit j,T,H)=>match Nat.beq j id with|true=>some (.normal,T,H)|false=>some (.exit j,T,H)
 |r=>r
def aZ(P:Program)(ng:Nat)(Z7:aW)(n:Nat)(m:Nat):Code->Tr aa->ah->Option mI:=
 Nat.rec (motive:=λ _=>Code->Tr aa->ah->Option mI) (λ _ _ _=>none)
  (λ _ y c T H=>Code.casesOn (motive:=λ _=>Option mI) c
   (some (.normal,T,H))
   (λ _ Z8 d=>px (jn P ng Z7 n Z8 T H d))
   (λ a b=>iL (y b) (y a T H))
   (λ x a b=>mq (y a T H) (y b T H) (aU ng T x))
   (λ id a=>kR id (y a T H))
   (λ a=>iL (y (.loop a)) (y a T H))
   (λ _ _ _ _=>none)
   (λ id=>some (.exit id,T,H))
   (λ _=>none) (λ _=>none) (λ _=>none)
   (some (.ret,T,H))
   (λ _=>none)) m
def fH:List aa->Nat->Tr aa->Tr aa
 |[],_,T=>T
 |v::vs,i,T=>fH vs (i+1) (T.set i (some v))
def jL(P:Program)(g:Nat->Option Row)(T:Tr aa):List ResultVar->Option (List aa)
 |[]=>some []
 |.tmp t::rs=>match jL P g T rs with|some l=>some (aw T t::l)|none=>none
 |.cell a t::rs=>match de P g t (aw T a),jL P g T rs with|some v,some l=>some (v::l)|_,_=>none
def QM(P:Program)(fn:Func):Option mI->Option (aa×ah)
 |some (.exit _,_,_)=>none
 |some (_,T,H')=>
  match jL P H'.objs.get T fn.results.toList with
  |some [v]=>some (v,H')
  |some l=>some (.tuple l,H')
  |none=>none
 |none=>none
def EZ(P:Program)(ng:Nat)(Z7:aW)(args:List aa)(H:ah)(fn:Func):Option (aa×ah):=Option.rec (motive:=λ _=>Option (aa×ah)) none (λ c=>QM P fn (aZ P ng Z7 (Nat.add args.length (Nat.sub fn.ntmps args.length)) 1000000 c (fH args 0 .nil) H)) fn.body
abbrev DO:=FuncId->List aa->ah->Option aa
def uV(P:Program)(ng:Nat)(sm:DO)(m:Nat):aW:=
 Nat.rec (motive:=λ _=>aW) (λ _ _ _=>none)
  (λ _ y f args H=>Option.rec (motive:=λ _=>Option (aa×ah))
   (Option.rec (motive:=λ _=>Option (aa×ah)) none (λ fn=>EZ P ng y args H fn) (P.funcs[f]?))
   (λ v=>some (v,H)) (sm f args H)) m
section
variable{a:aa}{Z9:List aa}{v:Value}
theorem Tr.Ev(v:Option α)(l r:Tr α)(i:Nat):
 (Tr.node v l r).get i=if i=0 then v else if i%2=1 then l.get (i/2)else r.get (i/2- 1):=by
 show Bool.rec (motive:=λ _=>Option α) (Bool.rec (motive:=λ _=>Option α) (r.get (i/2- 1)) (l.get (i/2)) (Nat.beq (i%2) 1)) v (Nat.beq i 0)=_;by_cases h:i=0;.subst h;rfl
 .rw[aj h];have:Nat.beq i 0=false:=by grind[Nat.eq_of_beq_eq_true]
  rw[this];by_cases y:i%2=1;.simp_all
  rw[aj y];have:Nat.beq (i%2) 1=false:=by grind[Nat.beq]
  rw[this]
theorem Tr.aw3(v:Option α)(l r:Tr α)(i:Nat)(x:Option α):
 (Tr.node v l r).set i x=if i=0 then .node x l r else if i%2=1 then .node v (l.set (i/2) x) r else .node v l (r.set (i/2- 1) x):=by
 show Bool.rec (motive:=λ _=>Tr α) (Bool.rec (motive:=λ _=>Tr α) (.node v l (r.set (i/2- 1) x)) (.node v (l.set (i/2) x) r) (Nat.beq (i%2) 1)) (.node x l r) (Nat.beq i 0)=_;by_cases h:i=0;.subst h;rfl
 .rw[aj h];have:Nat.beq i 0=false:=by grind[Nat.eq_of_beq_eq_true]
  rw[this];by_cases y:i%2=1;.simp_all
  rw[aj y];have:Nat.beq (i%2) 1=false:=by grind[Nat.beq]
  rw[this]
theorem Tr.auz(d i:Nat)(x:Option α):
 Tr.single (d+1) i x=if i=0 then .node x .nil .nil else if i%2=1 then .node none (Tr.single d (i/2) x) .nil else .node none .nil (Tr.single d (i/2- 1) x):=by
 show Bool.rec (motive:=λ _=>Tr α) (Bool.rec (motive:=λ _=>Tr α) (.node none .nil (Tr.single d (i/2- 1) x)) (.node none (Tr.single d (i/2) x) .nil) (Nat.beq (i%2) 1)) (.node x .nil .nil) (Nat.beq i 0)=_;by_cases h:i=0;.subst h;rfl
 .rw[aj h];have:Nat.beq i 0=false:=by grind[Nat.eq_of_beq_eq_true]
  rw[this];by_cases y:i%2=1;.simp_all
  rw[aj y];have:Nat.beq (i%2) 1=false:=by grind[Nat.beq]
  rw[this]
theorem Tr.aAm(x:Option α):∀(d i j:Nat),i<=d->(Tr.single d i x).get j=if i=j then x else none:=by
 intro d;induction d with
 |zero=>
  intro i j h;obtain rfl:i=0:=by omega
  show(Tr.node x .nil .nil).get j=_;rw[Tr.Ev];by_cases y:j=0;.subst y;simp
  rw[aj y,aj (show¬0=j by omega)];split<;>rfl
 |succ d F=>
  intro i j h;rw[Tr.auz];by_cases hi:i=0
  .subst hi;rw[ao rfl,Tr.Ev];by_cases y:j=0;.subst y;simp
   rw[aj y,aj (show¬0=j by omega)];split<;>rfl
  rw[aj hi];by_cases D:i%2=1
  .rw[ao D,Tr.Ev];by_cases y:j=0;.simp_all
   rw[aj y];by_cases A:j%2=1;.grind
   rw[aj A,aj (by omega)];rfl
  rw[aj D,Tr.Ev];by_cases y:j=0;.simp_all
  rw[aj y];by_cases A:j%2=1;.rw[ao A,aj (by omega)];rfl
  grind
theorem Tr.fT(x:Option α):∀(t:Tr α) (i j:Nat),(t.set i x).get j=if i=j then x else t.get j:=by
 intro t;induction t with
 |nil=>intro i j;show(Tr.single i i x).get j=_;rw[Tr.aAm x i i j (be _)];rfl
 |node v l r A y=>grind[Tr.aw3,Tr.Ev]
theorem Tr.sY(t:Tr α)(i:Nat)(x:Option α):(t.set i x).get i=x:=by rw[Tr.fT,ao rfl]
theorem Tr.tJ(t:Tr α){j:Nat}(h:i≠j)(x:Option α):(t.set i x).get j=t.get j:=by rw[Tr.fT,aj h]
theorem yV(T:Tr aa)(i:Nat):aw T i=(T.get i).getD (.tuple []):=by unfold aw;cases T.get i<;>rfl
theorem IJ(n:Nat)(T:Tr aa)(d:Nat)(v:aa):cG n T (some d) v=if d<n then T.set d (some v)else T:=by
 show Bool.rec (motive:=λ _=>Tr aa) T (T.set d (some v)) (Nat.ble (d+1) n)=_;by_cases h:d<n;.rw[ao h];have:Nat.ble (d+1) n=true:=b9 h;rw[this]
 rw[aj h];have:Nat.ble (d+1) n=false:=by cases e:Nat.ble (d+1) n with|false=>rfl|true=>exact absurd (Vf e) h
 rw[this]
def abJ(n:Nat)(T:Tr aa)(v:aa):cG n T none v=T:=rfl
structure Loc where
 bC:Nat
 off:Nat
 cap:Nat
 sz:Nat
abbrev cr:=Nat->Option Loc
mutual
def bj(ρ:cr):aa->Value->Prop
 |.bool b,v=>v=.bool b
 |.int k n,v=>v=.int k n
 |.str s,v=>v=.string ⟨⟨s⟩⟩
 |.nilPtr,v=>v=.pointer none
 |.ptr x off,v=>∃l,ρ x=some l/\v=.pointer (some ⟨l.bC,l.off+off,none⟩)
 |.ai,v=>v=.slice none 0 0
 |.slice x off len (some c),v=>∃l,ρ x=some l/\v=.slice (some ⟨l.bC,l.off+off,none⟩) len c
 |.slice x off len none,v=>∃l,ρ x=some l/\v=.slice (some ⟨l.bC,l.off+off,none⟩) len ((l.cap-off)/l.sz)
 |.dq,v=>∃a c,v=.slice (some a) 0 c
 |.nilFunc,v=>v=.nilFunc
 |.iface,v=>v=.nilIface\/∃u x,v=.iface u x
 |.func f a b,v=>∃xs ys,v=.func (.func f) ⟨xs⟩ ⟨ys⟩/\cJ ρ a xs/\cJ ρ b ys
 |.agg cs,v=>∃xs,v=.agg ⟨xs⟩/\cJ ρ cs xs
 |.tuple cs,v=>∃xs,v=.tuple ⟨xs⟩/\cJ ρ cs xs
def cJ(ρ:cr):List aa->List Value->Prop
 |[],xs=>xs=[]
 |c::cs,xs=>∃y ys,xs=y::ys/\bj ρ c y/\cJ ρ cs ys
end
def oV(ρ ρ':cr):Prop:=∀v l,ρ v=some l->ρ' v=some l
theorem oV.refl(ρ:cr):oV ρ ρ:=λ _ _ h=>h
def oV.trans{a b c:cr}(h:oV a b)(k:oV b c):oV a c:=λ v l e=>k v l (h v l e)
mutual
theorem Bb{ρ ρ':cr}(h:oV ρ ρ'):∀(a:aa) (v:Value),bj ρ a v->bj ρ' a v
 |.bool _,_,e=>e
 |.int _ _,_,e=>e
 |.str _,_,e=>e
 |.nilPtr,_,e=>e
 |.ptr _ _,_,⟨l,e,k⟩=>⟨l,h _ _ e,k⟩
 |.ai,_,e=>e
 |.slice _ _ _ (some _),_,⟨l,e,k⟩=>⟨l,h _ _ e,k⟩
 |.slice _ _ _ none,_,⟨l,e,k⟩=>⟨l,h _ _ e,k⟩
 |.dq,_,e=>e
 |.nilFunc,_,e=>e
 |.iface,_,e=>e
 |.func _ a b,_,⟨xs,ys,e,k,m⟩=>⟨xs,ys,e,EK h a xs k,EK h b ys m⟩
 |.agg cs,_,⟨xs,e,k⟩=>⟨xs,e,EK h cs xs k⟩
 |.tuple cs,_,⟨xs,e,k⟩=>⟨xs,e,EK h cs xs k⟩
theorem EK{ρ ρ':cr}(h:oV ρ ρ'):∀(Z9:List aa) (vs:List Value),cJ ρ Z9 vs->cJ ρ' Z9 vs
 |[],_,e=>e
 |a::Z9,_,⟨y,ys,e,k,m⟩=>⟨y,ys,e,Bb h a y k,EK h Z9 ys m⟩
end
theorem nH{ρ:cr}:cJ ρ [] xs↔xs=[]:=by simp[cJ]
theorem dg{ρ:cr}:cJ ρ (a::Z9) xs↔∃y ys,xs=y::ys/\bj ρ a y/\cJ ρ Z9 ys:=by simp[cJ]
theorem lY{ρ:cr}:∀{Z9:List aa} {xs:List Value},cJ ρ Z9 xs->xs.length=Z9.length
 |[],_,h=>by rw[nH.1 h];rfl
 |a::Z9,_,h=>by obtain⟨y,A,rfl,_,k⟩:=dg.1 h;simp[lY k]
theorem qN{ρ:cr}:∀{Z9:List aa} {xs:List Value},cJ ρ Z9 xs->∀{i:Nat} {a:aa},Z9[i]? =some a->∃x,xs[i]? =some x/\bj ρ a x
 |[],_,_,_,_,e=>by simp at e
 |a::Z9,_,h,i,b,e=>by
  obtain⟨y,A,rfl,D,k⟩:=dg.1 h;cases i;.simp_all
  rename_i i;simp at e;obtain⟨x,F,G⟩:=qN k e;simp_all
theorem G8{ρ:cr}:∀{Z9:List aa} {xs:List Value},xs.length=Z9.length->(∀(i:Nat) (a:aa),Z9[i]? =some a->∃x,xs[i]? =some x/\bj ρ a x)->cJ ρ Z9 xs
 |[],xs,A,_=>nH.2 (by simp_all)
 |a::Z9,xs,A,h=>by
  cases xs;.simp at A
  rename_i y D;refine dg.2 ⟨y,D,rfl,?_,G8 (by simpa using A) (λ i b e=>?_)⟩;.obtain⟨x,F,G⟩:=h 0 a (by simp);simp_all
  obtain⟨x,F,G⟩:=h (i+1) b (by simpa using e);simp_all
theorem HU{ρ:cr}:∀{Z9 bs:List aa} {xs A:List Value},cJ ρ Z9 xs->cJ ρ bs A->cJ ρ (Z9++bs) (xs++A)
 |[],_,_,_,h,k=>by rw[nH.1 h];exact k
 |a::Z9,bs,_,A,h,k=>by obtain⟨y,D,rfl,F,G⟩:=dg.1 h;exact dg.2 ⟨y,D++A,rfl,F,HU G k⟩
theorem apt{ρ:cr}(n:Nat)(h:cJ ρ Z9 xs):cJ ρ (Z9.take n) (xs.take n):=by grind[G8,lY,qN]
theorem avR{ρ:cr}(n:Nat)(h:cJ ρ Z9 xs):cJ ρ (Z9.drop n) (xs.drop n):=by grind[G8,lY,qN]
theorem I9(ρ:cr):bj ρ (.tuple []) undef:=⟨[],rfl,rfl⟩
def UT{ρ:cr}(h:HK v=some a):bj ρ a v:=by unfold HK at h;split at h<;>first|(cases h;first|rfl|exact⟨[],[],rfl,rfl,rfl⟩)|cases h
def Qm{ρ:cr}:∀{vs:List Value} {Z9:List aa},Dz vs=some Z9->cJ ρ Z9 vs
 |[],Z9,h=>by simp[Dz]at h;subst h;rfl
 |v::vs,Z9,h=>by
  simp only[Dz]at h;split at h;.rename_i a l A y;cases h;exact dg.2 ⟨v,vs,rfl,UT A,Qm y⟩
  cases h
theorem abK{ρ:cr}(h:ofValue v=some a):bj ρ a v:=by
 unfold ofValue at h;split at h
 .rename_i cs;split at h;.rename_i l y;cases h;exact⟨cs.toList,rfl,Qm y⟩
  cases h
 .rename_i cs;split at h;.rename_i l y;cases h;exact⟨cs.toList,rfl,Qm y⟩
  cases h
 exact UT h
def yT{ρ:cr}(h:bj ρ a v):cJ ρ a.cells v.cells.toList:=by
 cases a with
 |agg cs=>obtain⟨xs,rfl,k⟩:=h;exact k
 |slice x off len D=>
  cases D;.obtain⟨l,A,rfl⟩:=h;exact dg.2 ⟨_,[],rfl,⟨l,A,rfl⟩,rfl⟩
  rename_i c;obtain⟨l,A,rfl⟩:=h;exact dg.2 ⟨_,[],rfl,⟨l,A,rfl⟩,rfl⟩
 |ptr x off=>obtain⟨l,A,rfl⟩:=h;exact dg.2 ⟨_,[],rfl,⟨l,A,rfl⟩,rfl⟩
 |dq=>obtain⟨l,A,rfl⟩:=h;exact dg.2 ⟨_,[],rfl,⟨l,A,rfl⟩,rfl⟩
 |func f x y=>obtain⟨xs,F,rfl,k⟩:=h;exact dg.2 ⟨_,[],rfl,⟨xs,F,rfl,k⟩,rfl⟩
 |tuple cs=>obtain⟨xs,rfl,k⟩:=h;exact dg.2 ⟨_,[],rfl,⟨xs,rfl,k⟩,rfl⟩
 |bool b=>cases h;exact dg.2 ⟨_,[],rfl,rfl,rfl⟩
 |int k n=>cases h;exact dg.2 ⟨_,[],rfl,rfl,rfl⟩
 |str s=>cases h;exact dg.2 ⟨_,[],rfl,rfl,rfl⟩
 |nilPtr=>cases h;exact dg.2 ⟨_,[],rfl,rfl,rfl⟩
 |ai=>cases h;exact dg.2 ⟨_,[],rfl,rfl,rfl⟩
 |nilFunc=>cases h;exact dg.2 ⟨_,[],rfl,rfl,rfl⟩
 |iface=>
  rcases h with rfl|⟨u,x,rfl⟩
  .exact dg.2 ⟨_,[],rfl,.inl rfl,rfl⟩
  exact dg.2 ⟨_,[],rfl,.inr ⟨u,x,rfl⟩,rfl⟩
def amG{ρ:cr}(h:bj ρ a v)(F:a.eh=true):v.oneCell'=true:=by
 cases a with
 |agg cs=>simp[aa.eh]at F
 |tuple cs=>simp[aa.eh]at F
 |slice x off len A=>cases A<;>(obtain⟨l,D,rfl⟩:=h;rfl)
 |ptr x off=>obtain⟨l,D,rfl⟩:=h;rfl
 |dq=>obtain⟨l,D,rfl⟩:=h;rfl
 |func f x y=>obtain⟨xs,G,rfl,k⟩:=h;rfl
 |bool b=>cases h;rfl
 |int k n=>cases h;rfl
 |str s=>cases h;rfl
 |nilPtr=>cases h;rfl
 |ai=>cases h;rfl
 |nilFunc=>cases h;rfl
 |iface=>rcases h with rfl|⟨u,x,rfl⟩<;>rfl
theorem RF{ρ:cr}:∀{Z9:List aa} {vs:List Value},cJ ρ Z9 vs->Z9.all aa.eh=true->∀v∈vs,v.oneCell'=true
 |[],_,h,_,v,A=>by grind[nH]
 |a::Z9,_,h,D,v,A=>by
  obtain⟨y,G,rfl,F,k⟩:=dg.1 h;simp only[ug,aR]at D;simp only[ck]at A;rcases A with rfl|A
  .exact amG F D.1
  exact RF k D.2 v A
structure fi (ρ:cr) (n:Nat) (T:Tr aa) (tmps:Array Value):Prop where
 size:tmps.size=n
 get:∀i,bj ρ (aw T i) (tmps.getD i undef)
def fi.mono{ρ ρ':cr}{T:Tr aa}{tmps:Array Value}(h:fi ρ n T tmps)(e:oV ρ ρ'):fi ρ' n T tmps:=⟨h.size,λ i=>Bb e _ _ (h.get i)⟩
theorem fi.put{ρ:cr}{T:Tr aa}{a:Act}(h:fi ρ n T a.tmps)(d:Option Tmp){v:aa}{x:Value}(A:bj ρ v x):
 fi ρ n (cG n T d v) (a.put d x).tmps:=by
 cases d;.exact h
 .rename_i d;refine⟨by simp[Act.put,h.size],λ i=>?_⟩;rw[IJ];by_cases y:d<n
  .rw[ao y,yV,Tr.fT];by_cases e:d=i
   .subst e;rw[ao rfl];simp only[Act.put,Eh];have:d<a.tmps.size:=by rw[h.size];exact y
    simp_all
   rw[aj e,<-yV];have:=h.get i;simpa[Act.put,kW,Vg e]using this
  rw[aj y];have:=h.get i;have D:¬d<a.tmps.size:=by rw[h.size];exact y
  grind[Act.put]
end
section
variable{fam₁ fam₂:Nat->Option (List Nat)}{obj obj' obj₁ obj₂:Nat->Option Row}{w₁ w₂:World}{β:Type}{ρ ρ' ρ₁ ρ₂:cr}
def fU{β:Type}(f:Nat->β)(i:Nat)(x:β):Nat->β:=λ j=>if i=j then x else f j
theorem hJ(f:Nat->β)(i:Nat)(x:β):fU f i x i=x:=by simp[fU]
theorem fV(f:Nat->β){j:Nat}(h:i≠j)(x:β):fU f i x j=f j:=by simp[fU,h]
theorem wc(t:Tr α)(i:Nat)(x:Option α):(t.set i x).get=fU t.get i x:=funext λ j=>Tr.fT x t i j
structure wM (B:Nat) (ρ:cr) (r:Row) (l:Loc) (C:Array Value) (fz:Nat×Nat):Prop where
 len:r.cells.length<=l.cap
 cap:l.off+l.cap<=C.size
 ex:r.exact=true->l.cap=r.cells.length
 sz:l.sz=r.sz
 own:r.ro=false->B<=l.bC
 fz:r.ro=false->fz=(0,0)
 cells:∀(i:Nat) (c:aa),r.cells[i]? =some c->∃x,C[l.off+i]? =some x/\bj ρ c x
def wM.mono{r:Row}{l:Loc}(h:wM B ρ r l C fz)(e:oV ρ ρ'):wM B ρ' r l C fz:=⟨h.len,h.cap,h.ex,h.sz,h.own,h.fz,λ i c D=>let⟨x,y,A⟩:=h.cells i c D;⟨x,y,Bb e _ _ A⟩⟩
def GV(ru y:Row)(D A:Loc):Prop:=D.bC=A.bC->(ru.ro=true/\y.ro=true)\/(ru.ro=false/\y.ro=false/\ru.aC=y.aC/\D.off+y.start=A.off+ru.start)
theorem GV.symm{ru y:Row}{lu A:Loc}(h:GV ru y lu A):GV y ru A lu:=λ e=>by
 rcases h e.symm with⟨a,b⟩|⟨a,b,c,d⟩
 .exact .inl ⟨b,a⟩
 grind
structure ez (B ng:Nat) (ρ:cr) (obj:Nat->Option Row) (aC:Nat->Option (List Nat)) (h:Array Obj):Prop where
 base:B<=h.size
 iT:∀g,g<ng->∃c s,ρ g=some ⟨g,0,c,s⟩
 row:∀v r,obj v=some r->∃l C e fz,ρ v=some l/\h[l.bC]? =some (.cells C e fz)/\wM B ρ r l C fz
 sep:∀u v ru rv lu lv,u≠v->obj u=some ru->obj v=some rv->ρ u=some lu->ρ v=some lv->GV ru rv lu lv
 aC:∀v r mem,obj v=some r->r.ro=false->aC r.aC=some mem->v∈mem
theorem SX{o:Obj}(e:h[b]? =some o):b<h.size:=by grind
def ez.mono(s:ez B ng ρ obj aC h)(e:oV ρ ρ'):ez B ng ρ' obj aC h where
 base:=s.base
 iT:=λ g L=>let⟨c,z,k⟩:=s.iT g L;⟨c,z,e _ _ k⟩
 row:=λ v r y=>let⟨l,C,t,fz,A,M,ok⟩:=s.row v r y;⟨l,C,t,fz,e _ _ A,M,ok.mono e⟩
 sep:=λ u v ru D S P ne F y N ev=>by obtain⟨l,_,_,_,A,_,_⟩:=s.row u ru F;obtain⟨m,_,_,_,G,_,_⟩:=s.row v D y;have K:=e _ _ A;rw[N]at K;cases K;have J:=e _ _ G;rw[ev]at J;cases J;exact s.sep u v ru D _ _ ne F y A G
 aC:=s.aC
def ez.sub(s:ez B ng ρ obj aC h)
 (D:∀v r,obj' v=some r->obj v=some r) (M:∀f mem,fam' f=some mem->∀v r,obj' v=some r->r.ro=false->r.aC=f->v∈mem):ez B ng ρ obj' fam' h where
 base:=s.base
 iT:=s.iT
 row:=λ v r y=>s.row v r (D v r y)
 sep:=λ u v ru F J G ne K y N ev=>s.sep u v ru F J G ne (D u ru K) (D v F y) N ev
 aC:=λ v r _ y A L=>M _ _ L v r y A rfl
theorem ez.at1{F:Array Obj}(s:ez B ng ρ obj aC h)
 {G:Array Value} (Y:h[b]? =some (.cells C e fz)) (K:F[b]? =some (.cells G e fz)) (Z:G.size=C.size)
 (J:F.size=h.size) (ho:∀k,k≠b->F[k]? =h[k]?)
 (hr:∀u ru A,obj u=some ru->ρ u=some A->A.bC=b->∀i,i<ru.cells.length->G[A.off+i]? =C[A.off+i]?):ez B ng ρ obj aC F where
 base:=by rw[J];exact s.base
 iT:=s.iT
 row:=λ v r N=>by
  obtain⟨l,D,t,aa,P,y,ok⟩:=s.row v r N;by_cases M:l.bC=b;.rw[M,Y]at y;cases y;refine⟨l,G,e,fz,P,by rw[M];exact K,⟨ok.len,by rw[Z];exact ok.cap,ok.ex,ok.sz,ok.own,ok.fz,λ i c S=>?_⟩⟩;obtain⟨x,hx,L⟩:=ok.cells i c S;grind
  grind
 sep:=s.sep
 aC:=s.aC
theorem ez.push(s:ez B ng ρ obj aC h)(o:Obj):ez B ng ρ obj aC (h.push o)where
 base:=by simp;have:=s.base;omega
 iT:=s.iT
 row:=λ v r y=>by obtain⟨l,D,t,F,G,A,ok⟩:=s.row v r y;grind
 sep:=s.sep
 aC:=s.aC
theorem ez.Kx(s:ez B ng ρ obj aC h)
 (id:Nat) (l:Loc) (r:Row) (L:ρ id=some l) (S:h[l.bC]? =some (.cells C e fz)) (ok:wM B ρ r l C fz)
 (D:∀u ru G,u≠id->obj u=some ru->ρ u=some G->GV ru r G l)
 (F:∀v y mem,fU obj id (some r) v=some y->y.ro=false->fam' y.aC=some mem->v∈mem):ez B ng ρ (fU obj id (some r)) fam' h where
 base:=s.base
 iT:=s.iT
 row:=λ v y A=>by
  by_cases K:id=v;.grind[hJ]
  rw[fV _ K]at A;exact s.row v y A
 sep:=λ u v ru y G N ne J A M ev=>by
  by_cases K:id=u;.subst K;rw[hJ]at J;cases J;rw[fV _ ne]at A;rw[L]at M;cases M;exact(D v y N (By ne) A ev).symm
  rw[fV _ K]at J;by_cases P:id=v;.grind[hJ]
  rw[fV _ P]at A;exact s.sep u v ru y G N ne J A M ev
 aC:=F
abbrev jj(B ng:Nat)(ρ:cr)(H:ah)(w:World):Prop:=ez B ng ρ H.objs.get H.aG.get w.heap
structure cp (B ng:Nat) (obj:Nat->Option Row) (lo hi:Nat) (ρ:cr) (w:World) (obj':Nat->Option Row) (fam':Nat->Option (List Nat)) (ρ':cr) (w':World):Prop where
 bN:ez B ng ρ' obj' fam' w'.heap
 ext:∀v,¬(lo<=v/\v<hi)->ρ' v=ρ v
 os:w'.os=w.os
 tape:w'.tape=w.tape
 output:w'.output=w.output
 size:w.heap.size<=w'.heap.size
 qj:∀b,b<w.heap.size->(∀v r l,obj v=some r->r.ro=false->ρ v=some l->l.bC≠b)->w'.heap[b]? =w.heap[b]?
 oO:∀v r l,obj' v=some r->r.ro=false->ρ' v=some l->w.heap.size<=l.bC\/∃u ru lu,obj u=some ru/\ru.ro=false/\ρ u=some lu/\lu.bC=l.bC
 pA:∀v r,obj' v=some r->r.ro=true->obj v=some r
def ju(ρ:cr)(lo hi:Nat):Prop:=∀v,lo<=v->v<hi->ρ v=none
def cp.Kn{w:World}
 (c:cp B ng obj lo hi ρ w obj' fam' ρ' w') (y:ju ρ lo hi):oV ρ ρ':=λ v l e=>by
 rw[c.ext v (λ ⟨a,b⟩=>by rw[y v a b]at e;cases e)];exact e
theorem cp.refl{w:World}(s:ez B ng ρ obj aC w.heap)(lo hi:Nat):cp B ng obj lo hi ρ w obj aC ρ w where
 bN:=s
 ext:=λ _ _=>rfl
 os:=rfl
 tape:=rfl
 output:=rfl
 size:=be _
 qj:=λ _ _ _=>rfl
 oO:=λ v r l a b c=>.inr ⟨v,r,l,a,b,c,rfl⟩
 pA:=λ _ _ h _=>h
theorem cp.trans{F:Nat}{w:World}
 (a:cp B ng obj lo F ρ w obj₁ fam₁ ρ₁ w₁) (b:cp B ng obj₁ F hi ρ₁ w₁ obj₂ fam₂ ρ₂ w₂) (h1:lo<=F) (h2:F<=hi):cp B ng obj lo hi ρ w obj₂ fam₂ ρ₂ w₂ where
 bN:=b.bN
 ext:=λ v h=>by rw[b.ext v (λ ⟨x,y⟩=>h ⟨by omega,y⟩),a.ext v (λ ⟨x,y⟩=>h ⟨x,by omega⟩)]
 os:=b.os.trans a.os
 tape:=b.tape.trans a.tape
 output:=b.output.trans a.output
 size:=fX a.size b.size
 qj:=λ k hk hn=>by
  rw[b.qj k (by have:=a.size;omega) ?_,a.qj k hk hn];intro v r l G A J e;rcases a.oO v r l G A J with h|⟨u,ru,L,M,N,D,K⟩
  .omega
  grind
 oO:=λ v r l G A J=>by
  rcases b.oO v r l G A J with h|⟨u,ru,L,M,N,D,K⟩
  .left;have:=a.size;omega
  rcases a.oO u ru L M N D with h|⟨u',Y,Z,aa,ab,P,S⟩
  .left;omega
  grind
 pA:=λ v r h k=>a.pA v r (b.pA v r h k) k
theorem cp.KP{w:World}
 (a:cp B ng obj lo hi ρ w obj₁ fam₁ ρ₁ w₁) (b:cp B ng obj₁ lo hi ρ₁ w₁ obj₂ fam₂ ρ₂ w₂):cp B ng obj lo hi ρ w obj₂ fam₂ ρ₂ w₂ where
 bN:=b.bN
 ext:=λ v h=>by rw[b.ext v h,a.ext v h]
 os:=b.os.trans a.os
 tape:=b.tape.trans a.tape
 output:=b.output.trans a.output
 size:=fX a.size b.size
 qj:=λ k hk hn=>by
  rw[b.qj k (by have:=a.size;omega) ?_,a.qj k hk hn];intro v r l D y F e;rcases a.oO v r l D y F with h|⟨u,ru,J,K,L,A,G⟩
  .omega
  grind
 oO:=λ v r l D y F=>by
  rcases b.oO v r l D y F with h|⟨u,ru,J,K,L,A,G⟩
  .left;have:=a.size;omega
  rcases a.oO u ru J K L A with h|⟨u',P,S,Y,Z,M,N⟩
  .left;omega
  grind
 pA:=λ v r h k=>a.pA v r (b.pA v r h k) k
def cp.abC{y A:Nat}{w:World}
 (c:cp B ng obj lo hi ρ w obj' fam' ρ' w') (F:y<=lo) (D:hi<=A):cp B ng obj y A ρ w obj' fam' ρ' w':=
 {c with ext:=λ v h=>c.ext v (λ k=>h ⟨by omega,by omega⟩)}
def cp.below{w:World}
 (s:ez B ng ρ obj aC w.heap) (c:cp B ng obj lo hi ρ w obj' fam' ρ' w'):∀k,k<B->w'.heap[k]? =w.heap[k]? :=λ k G=>
 c.qj k (dF G s.base) λ v r l D y F e=>by obtain⟨m,C,t,fz,A,J,ok⟩:=s.row v r D;rw[F]at A;cases A;have:=ok.own y;omega
end
section
variable{a:Nat}{obj:Nat->Option Row}
theorem gT(h:Nat.ble a b=true):a<=b:=Vf h
theorem ae8(h:Nat.ble a b=false):b<a:=by grind[Nat.ble_eq_true_of_le]
theorem beq_true(h:Nat.beq a b=true):a=b:=cU h
theorem beq_false(h:Nat.beq a b=false):a≠b:=by grind[Nat.beq_refl]
theorem uB:∀(mem:List Nat) (objs:Tr Row) (u:Nat) (r:Row),(jF objs v lo hi mem).get u=some r->
 objs.get u=some r/\(u∈mem->u≠v->hi<=r.start\/r.start+r.cells.length<=lo)
 |[],objs,u,r,h=>⟨h,λ k=>by cases k⟩
 |a::mem,objs,u,r,h=>by
  simp only[jF]at h;split at h;.rename_i e;have e:=beq_true e;obtain⟨D,A⟩:=uB mem objs u r h;grind
  split at h;.rename_i J;obtain⟨D,A⟩:=uB mem objs u r h;grind
  rename_i G F;split at h;.obtain⟨D,A⟩:=uB mem _ u r h;grind[Tr.fT]
  rename_i y;obtain⟨D,A⟩:=uB mem objs u r h;grind[gT]
theorem tR:∀(mem:List Nat) (objs:Tr Row) (u:Nat) (r:Row),(mG objs lo mem).get u=some r->
 objs.get u=some r/\(u∈mem->r.start+r.cells.length<=lo)
 |[],objs,u,r,h=>⟨h,λ k=>by cases k⟩
 |a::mem,objs,u,r,h=>by
  simp only[mG]at h;split at h;.rename_i G;obtain⟨A,y⟩:=tR mem objs u r h;grind
  rename_i F D;split at h;.rename_i e;obtain⟨A,y⟩:=tR mem objs u r h;grind[gT]
  obtain⟨A,y⟩:=tR mem _ u r h;grind[Tr.fT]
variable{B ng:Nat}{ρ:cr}
theorem SG{w:World}(s:ez B ng ρ obj aC w.heap){id:Nat}(ad:ρ id=none)
 (N:∀v r,obj v=some r->v≠id/\r.aC≠id) (cells:List aa) (exact:Bool) (sz cap:Nat) {C:Array Value} {e:TypeId} (hC:C.size=cap) (K:cells.length<=cap)
 (P:exact=true->cap=cells.length) (Z:∀(i:Nat) (c:aa),cells[i]? =some c->∃x,C[i]? =some x/\bj ρ c x)
 (Y:w'.heap=w.heap.push (.cells C e (0,0))) (M:w'.os=w.os) (A:w'.tape=w.tape) (J:w'.output=w.output):
 cp B ng obj id (id+1) ρ w (fU obj id (some ⟨cells,id,0,exact,false,sz⟩)) (fU aC id (some [id])) (fU ρ id (some ⟨w.heap.size,0,cap,sz⟩)) w':=by
 have y:oV ρ (fU ρ id (some ⟨w.heap.size,0,cap,sz⟩)):=λ v l h=>by grind[fV]
 refine⟨?_,λ v G=>fV _ (by omega) _,M,A,J,by rw[Y];simp,λ b hb _=>by grind,λ v r l G F hl=>?_,λ v r G F=>?_⟩
 .rw[Y];refine((s.mono y).push _).Kx id ⟨w.heap.size,0,cap,sz⟩ _ (hJ _ _ _) (C:=C) (e:=e) (fz:=(0,0)) (by simp) ?_ ?_ ?_;.refine⟨K,by simp[hC],P,rfl,λ _=>s.base,λ _=>rfl,λ i c hc=>?_⟩;grind[Bb]
  .intro u ru lu hu L ac ab;obtain⟨l,D,t,fz,hl,hb,_⟩:=(s.mono y).row u ru L;grind
  intro v S mem G F hm;by_cases e1:id=v;.grind[hJ]
  rw[fV _ e1]at G;rw[fV _ (By (N v S G).2)]at hm;exact s.aC v S mem G F hm
 .grind[hJ,fV]
 grind[hJ,fV]
theorem JG(cs new:List aa)(off:Nat)(h:off+new.length<=cs.length):(ep cs off new).length=cs.length:=by simp[ep];omega
theorem SZ(cs new:List α)(off i:Nat)(h:off+new.length<=cs.length):
 (cs.take off++new++cs.drop (off+new.length))[i]? =if off<=i/\i<off+new.length then new[i-off]?else cs[i]? :=by
 grind[List.getElem?_append_right]
theorem IW(w:World)(g:Nat)(C y:Array Value)(e:TypeId)(fz:Nat×Nat)(h:w.heap[g]? =some (.cells C e fz)):(w.setRow g y).heap[g]? =some (.cells y e fz):=by grind[World.setRow]
theorem Kq(w:World)(g k:Nat)(y:Array Value)(h:k≠g):(w.setRow g y).heap[k]? =w.heap[k]? :=by grind[World.setRow]
def putRow(w:World)(b at_:Nat)(C:Array Value)(xs:List Value):World:=w.setRow b (C.toList.take at_++xs++C.toList.drop (at_+xs.length)).toArray
theorem Fp(h:at_+xs.length<=C.size)(i:Nat):
 (C.toList.take at_++xs++C.toList.drop (at_+xs.length)).toArray[i]? =if at_<=i/\i<at_+xs.length then xs[i-at_]?else C[i]? :=by
 grind
def aqG(h:at_+xs.length<=C.size):
 (C.toList.take at_++xs++C.toList.drop (at_+xs.length)).toArray.size=C.size:=by
 simp;omega
theorem ez.put{w:World}(s:ez B ng ρ obj aC w.heap)
 (D:w.heap[b]? =some (.cells C e fz)) (xs:List Value) (A:at_+xs.length<=C.size)
 (K:∀u ru y,obj u=some ru->ρ u=some y->y.bC=b->y.off+ru.cells.length<=at_\/at_+xs.length<=y.off):ez B ng ρ obj aC (putRow w b at_ C xs).heap:=by
 refine s.at1 D (IW w b C _ e fz D) (aqG A) (by simp[putRow]) (λ k F=>Kq w b k _ F) (λ u ru y J L G i hi=>?_);grind[Fp]
theorem SC{H H':ah}{w:World}(s:jj B ng ρ H w){new:List aa}(h:gM H v off new=some H')(hx:cJ ρ new xs):
 ∃l C e,ρ v=some l/\w.heap[l.bC]? =some (.cells C e (0,0))/\l.off+off+xs.length<=C.size/\(∀x∈xs,x.oneCell'=true)/\H'.next=H.next/\cp B ng H.objs.get H.next H'.next ρ w H'.objs.get H'.aG.get ρ (putRow w l.bC (l.off+off) C xs):=by
 unfold gM at h;split at h;.cases h
 .rename_i r P;split at h
  .rename_i mem J D S Y;cases h;have D:=gT D;obtain⟨l,C,e,fz,Z,hb,ok⟩:=s.row v r P;obtain rfl:=ok.fz J;have aj:=lY hx;have ak:=ok.len;have af:=ok.cap;have G:l.off+off+xs.length<=C.size:=by omega
   refine⟨l,C,e,Z,hb,G,RF hx S,rfl,?_⟩;have sub:∀u ru,(jF H.objs v (r.start+off) (r.start+off+new.length) mem).get u=some ru->H.objs.get u=some ru:=λ u ru y=>(uB mem _ u ru y).1
   have ag:∀u ru lu,u≠v->(jF H.objs v (r.start+off) (r.start+off+new.length) mem).get u=some ru->ρ u=some lu->lu.bC=l.bC->
    lu.off+ru.cells.length<=l.off+off\/l.off+off+xs.length<=lu.off:=by
    intro u ru lu ne y F K;have N:=sub u ru y;rcases s.sep u v ru r lu l ne N P F Z K with⟨_,h2⟩|⟨h1,_,h3,h4⟩
    .rw[J]at h2;cases h2
    .have L:u∈mem:=s.aC u ru mem N h1 (by rw[h3];exact Y);have:=(uB mem _ u ru y).2 L ne;omega
   let r':Row:={r with cells:=ep r.cells off new}
   have ab:(putRow w l.bC (l.off+off) C xs).heap[l.bC]? =some (.cells (C.toList.take (l.off+off)++xs++C.toList.drop (l.off+off+xs.length)).toArray e (0,0)):=IW w l.bC C _ e _ hb
   have ad:ez B ng ρ (fU (jF H.objs v (r.start+off) (r.start+off+new.length) mem).get v (some r')) H.aG.get (putRow w l.bC (l.off+off) C xs).heap:=by
    have s1:ez B ng ρ (fU (jF H.objs v (r.start+off) (r.start+off+new.length) mem).get v none) H.aG.get w.heap:=by
     refine ez.sub s (λ u ru y=>?_) (λ f m L u ru y A hf=>?_);.grind[hJ,fV]
     by_cases e1:v=u;.grind[hJ]
     rw[fV _ e1]at y;subst hf;exact s.aC u ru m (sub u ru y) A L
    have s2:=s1.put (at_:=l.off+off) hb xs G (λ u ru lu y F K=>by grind[hJ,fV])
    have ac:fU (fU (jF H.objs v (r.start+off) (r.start+off+new.length) mem).get v none) v (some r')=fU (jF H.objs v (r.start+off) (r.start+off+new.length) mem).get v (some r'):=by grind[hJ,fV]
    rw[<-ac];refine s2.Kx v l r' Z ab ?_ ?_ ?_
    .refine⟨by grind[ep],by grind,λ he=>by show l.cap=(ep r.cells off new).length;rw[JG _ _ _ D];exact ok.ex he,ok.sz,ok.own,λ _=>rfl,λ i c M=>?_⟩
     have M:(ep r.cells off new)[i]? =some c:=M;unfold ep at M;rw[SZ _ _ _ _ D]at M;rw[Fp G];split at M;.grind[qN]
     rename_i hi;obtain⟨x,ai,ae⟩:=ok.cells i c M;grind
    .intro u ru lu ne y F;rw[fV _ (By ne)]at y;have:=s.sep u v ru r lu l ne (sub u ru y) P F Z;exact this
    intro u ru m y A L;by_cases e1:v=u;.subst e1;rw[hJ]at y;cases y;exact s.aC _ r m P J L
    rw[fV _ e1,fV _ e1]at y;exact s.aC u ru m (sub u ru y) A L
   refine⟨by grind[wc],λ _ _=>rfl,rfl,rfl,rfl,by simp[putRow],λ b al hn=>?_,λ u ru lu y A F=>?_,λ u ru y A=>?_⟩
   .exact Kq w l.bC b _ (By (hn v r l P J Z))
   .grind[Tr.fT]
   grind[Tr.fT]
  cases h
end
section
open Go
variable{cs:List aa}{i:TypeInfo}{obj:Nat->Option Row}
variable{P:Program}
theorem xf(b o n:Nat):(⟨b,o,none⟩:Addr).add n=⟨b,o+n,none⟩:=by grind[Addr.add]
def TD(P:Program)(w:World)(i:TypeInfo)(z:Value)(u:TypeId)(x:Value)(n:Nat)(cN:List Value):Prop:=
 (∃d,P.underlying u=some (.slice d)/\Builtin.lenOf x=Sem.pure n/\∀w':World,w'.heap=w.heap->(Builtin.firstCells i.size n x).run P w'=.ok cN.toArray w')\/
 (∃k y,P.underlying u=some (.int k)/\x=.int y (n:Int)/\n<=1099511627776/\n*i.bytes<=1099511627776/\n*i.size≠0/\cN=(Builtin.zeroCells z.cells n).toList)
def wrap_small(n:Nat)(h:n<=1099511627776):IntKind.i64.wrap (n:Int)=n:=IntWalk.i64_in _ (by omega)
theorem Qk(h:n*b<=1099511627776):¬(281474976710656<(n:Int)*(b:Int)):=by grind
theorem Sp{z:Value}(K:P.underlying t=some (.slice e))(hi:P.info? e=some i)(Y:i.zero=some z)
 {w:World} {x:Value} {cN:List Value} (hs:TD P w i z u x n cN) (base:Option Addr) (A D:Nat) (y:A+n<=D) (w2:World)
 (G:∀a,base=some a->(storeCells (a.add (A*i.size)) cN).run P w=.ok () w2) (J:base=none->w2=w):
 (Builtin.append_ #[t,u] ty #[.slice base A D,x]).run P w=.ok (.slice base (A+n) D) w2:=by
 rcases hs with⟨d,F,hl,L⟩|⟨k,k',F,rfl,S,N,M,rfl⟩
 .have L:=L w rfl;cases base;.have:=J rfl;subst this;simp[Builtin.append_,run_underlying K,run_underlying F,sizeOf,typeInfo,hi,hl,y,L]
  rename_i a;have:=G a rfl;simp[Builtin.append_,run_underlying K,run_underlying F,sizeOf,typeInfo,hi,hl,y,L,this]
 .have Z:=wrap_small n S;have h1:¬((n:Int)<0):=by omega
  have h2:=Qk N;cases base;.have:=J rfl;subst this;simp[Builtin.append_,run_underlying K,run_underlying F,sizeOf,typeInfo,zeroValue,hi,Y,y,asInt,asIntOf,Z,h1,h2]
  rename_i a;have:=G a rfl;simp[Builtin.append_,run_underlying K,run_underlying F,sizeOf,typeInfo,zeroValue,hi,Y,y,asInt,asIntOf,Z,h1,h2,M,this]
theorem ame{z:Value}(ht:P.underlying t=some (.slice e))(hi:P.info? e=some i)(Z:i.zero=some z)
 {w:World} {x:Value} {cN:List Value} (hs:TD P w i z u x n cN) (base:Option Addr) (y A:Nat) (hg:A<y+n) (hb:(y+n)*i.bytes<=1099511627776) (hn:y+n<=1099511627776)
 (D:List Value) (ho:(Builtin.firstCells i.size y (.slice base y A)).run P w.drew=.ok D.toArray w.drew):
 (Builtin.append_ #[t,u] ty #[.slice base y A,x]).run P w=.ok (.slice (some ⟨w.heap.size,0,none⟩) (y+n) (grownCap w (y+n) A e)) (w.drew.alloc (.cells (D.toArray++cN.toArray++Builtin.zeroCells z.cells (grownCap w (y+n) A e-(y+n))) e)):=by
 have J:¬(y+n<=A):=by omega
 have F:¬(9223372036854775807<((y:Int)+(n:Int))):=by omega
 have Y:Builtin.nextslicecap (y+n) A<=2*(y+n):=nextslicecap_le hg;have G:¬(281474976710656<Builtin.nextslicecap (y+n) A*i.bytes):=by have:=mQ i.bytes Y;grind
 rcases hs with⟨d,K,hl,S⟩|⟨k,k',K,rfl,N,M,L,rfl⟩
 .have S:=S w.drew rfl;simp[Builtin.append_,run_underlying ht,run_underlying K,sizeOf,typeInfo,zeroValue,hi,Z,hl,J,F,G,Question.forced,S,ho,newRow,grownCap];grind
 .have hw:=wrap_small n N;have h1:¬((n:Int)<0):=by omega
  have h2:=Qk M;simp[Builtin.append_,run_underlying ht,run_underlying K,sizeOf,typeInfo,zeroValue,hi,Z,J,F,G,Question.forced,ho,newRow,grownCap,asInt,asIntOf,hw,h1,h2,L]
def WF(H:ah):Prop:=∀v r,H.objs.get v=some r->v<H.next/\r.aC<H.next
variable{B ng:Nat}{ρ:cr}
theorem HL(s:ez B ng ρ obj aC h)(A:bq obj v off n=some cs):
 ∃l C e fz xs,ρ v=some l/\h[l.bC]? =some (.cells C e fz)/\cs.length=n/\cJ ρ cs xs/\xs.length=n/\∀j x,xs[j]? =some x->C[l.off+off+j]? =some x:=by
 unfold bq at A;split at A;.cases A
 .rename_i r K;split at A
  .rename_i y;cases A;have y:=gT y;obtain⟨l,C,e,fz,M,S,ok⟩:=s.row v r K;have G:=ok.cap;have L:=ok.len
   have N:∀j,j<n->∃x,C[l.off+off+j]? =some x/\∃c,r.cells[off+j]? =some c/\bj ρ c x:=by
    intro j Y;have D:off+j<r.cells.length:=by omega
    obtain⟨x,J,F⟩:=ok.cells (off+j) r.cells[off+j] (cW D);grind
   refine⟨l,C,e,fz,(C.toList.drop (l.off+off)).take n,M,S,by simp;omega,?_,by simp;omega,λ j x J=>?_⟩;.grind[G8]
   grind
  cases A
theorem ZI{w:World}{o:Nat}(h:w.heap[b]? =some (.cells C e fz))(j:Nat):w.cell? ((⟨b,o,none⟩:Addr).add j)=C[o+j]? :=by grind[xf,cell_of_row]
def Zc{s:aa}{A:Value}(y:bj ρ s A)(h:lenOf s=some n):∃b c,A=.slice b n c/\Builtin.lenOf A=Sem.pure n:=by
 cases s with
 |ai=>simp[lenOf]at h;subst h;cases y;exact⟨none,0,rfl,rfl⟩
 |dq=>simp[lenOf]at h;subst h;obtain⟨a,c,rfl⟩:=y;exact⟨some a,c,rfl,rfl⟩
 |slice v off len D=>
  simp[lenOf]at h;subst h;cases D;.obtain⟨l,_,rfl⟩:=y;exact⟨_,_,rfl,rfl⟩
  rename_i c;obtain⟨l,_,rfl⟩:=y;exact⟨_,_,rfl,rfl⟩
 |_=>simp[lenOf]at h
def ZP{w:World}(s:ez B ng ρ obj aC w.heap){x:aa}{xv:Value}(L:bj ρ x xv)(A:eR obj sz n x=some cs):
 ∃xs,cJ ρ cs xs/\cs.length=n*sz/\∀w':World,w'.heap=w.heap->(Builtin.firstCells sz n xv).run P w'=.ok xs.toArray w':=by
 have zero:n=0->cs=[]->∀a len c,∃xs,cJ ρ cs xs/\cs.length=n*sz/\∀w':World,w'.heap=w.heap->(Builtin.firstCells sz n (.slice a len c)).run P w'=.ok xs.toArray w':=by
  rintro rfl rfl a len c
  refine⟨[],rfl,by simp,λ w' _=>?_⟩;cases a<;>simp[Builtin.firstCells,loadCells,loadCellsFrom]
 have Y:∀v off c l,bq obj v off (n*sz)=some cs->ρ v=some l->∀len,∃xs,cJ ρ cs xs/\cs.length=n*sz/\
  ∀w':World,w'.heap=w.heap->(Builtin.firstCells sz n (.slice (some ⟨l.bC,l.off+off,none⟩) len c)).run P w'=.ok xs.toArray w':=by
  intro v off c l hr J len;obtain⟨l',C,e,fz,xs,G,hb,F,D,N,K⟩:=HL s hr;rw[J]at G;cases G;refine⟨xs,D,F,λ w' S=>?_⟩;exact run_firstCells_some w' sz n _ len c xs N (λ j y Z=>by rw[ZI (by rw[S];exact hb)];exact K j y Z)
 cases x with
 |ai=>cases L;simp only[eR]at A;split at A<;>cases A;exact zero (beq_true (by assumption)) rfl _ _ _
 |dq=>obtain⟨a,c,rfl⟩:=L;simp only[eR]at A;split at A<;>cases A;exact zero (beq_true (by assumption)) rfl _ _ _
 |slice v off len M=>
  simp only[eR]at A;split at A
  .cases M;.obtain⟨l,J,rfl⟩:=L;exact Y v off _ l A J len
   rename_i c;obtain⟨l,J,rfl⟩:=L;exact Y v off _ l A J len
  cases A
 |_=>simp[eR]at A
end
section
open Go
variable{P:Program}{B ng:Nat}{ρ:cr}
theorem TQ{D:Nat->Option Row}(s:ez B ng ρ D aC h){x:aa}{xv:Value}{ex:Bool}{c:Nat}(J:bj ρ x xv)(A:hY D sz x=some (ex,c)):
 ∃b n cap,xv=.slice b n cap/\c<=cap/\(ex=true->cap=c):=by
 cases x with
 |ai=>cases J;grind[hY]
 |slice v off len G=>
  cases G
  .obtain⟨l,L,rfl⟩:=J;simp only[hY]at A;split at A
   .rename_i r N;split at A;.rename_i y K;cases A;have y:=beq_true y;obtain⟨l',C,e,fz,F,Y,ok⟩:=s.row v r N;rw[L]at F;cases F;have M:=ok.sz;have Z:=ok.len;rw[y]at M;rw[M];refine⟨_,_,_,rfl,Nat.div_le_div_right (by omega),λ S=>?_⟩;rw[ok.ex S]
    cases A
   cases A
  rename_i c';obtain⟨l,L,rfl⟩:=J;grind[hY]
 |_=>simp[hY]at A
def ald(A cN:List Value)(z:Array Value)(y n cap sz:Nat)(F:A.length=y*sz)(G:cN.length=n*sz)(D:z.size=sz)(J:y+n<=cap):
 (A.toArray++cN.toArray++Builtin.zeroCells z (cap-(y+n))).size=cap*sz:=by
 simp only[Array.size_append,List.size_toArray,size_zeroCells,F,G,D];rw[<-jR,<-jR]
 congr 1
 omega
theorem afX{y cN:List Value}{z:Array Value}{k:Nat}{cells:List aa}(h:cJ ρ cells (y++cN))(i:Nat)(c:aa)(A:cells[i]? =some c):
 ∃x,(y.toArray++cN.toArray++Builtin.zeroCells z k)[i]? =some x/\bj ρ c x:=by
 grind[qN]
def ahn{len:Nat}{y:Option Nat}{b:Option Addr}{cap:Nat}(h:bj ρ (.slice v off len y) (.slice b n cap))(m:Nat):
 bj ρ (.slice v off m y) (.slice b m cap)/\∃l,ρ v=some l/\b=some ⟨l.bC,l.off+off,none⟩:=by
 cases y;.obtain⟨l,A,D⟩:=h;cases D;exact⟨⟨l,A,rfl⟩,l,A,rfl⟩
 .rename_i c;obtain⟨l,A,D⟩:=h;cases D;exact⟨⟨l,A,rfl⟩,l,A,rfl⟩
theorem Sf{w:World}{o:Nat}(A:w.heap[b]? =some (.cells C e (0,0)))(y:o+xs.length<=C.size)(D:∀x∈xs,x.oneCell'=true):
 (storeCells ⟨b,o,none⟩ xs).run P w=.ok () (putRow w b o C xs):=by
 grind[run_storeCells_at,putRow]
theorem V6{H H':ah}{w:World}(s:jj B ng ρ H w)(wf:WF H){ty e:TypeId}{i:TypeInfo}{z:Value}(ht:P.underlying t=some (.slice e))(hi:P.info? e=some i)(hz:i.zero=some z)
 (aK:z.cells.size=i.size) (aN:0<i.size) {sa:aa} {sv xv:Value} (ae:bj ρ sa sv) {new:List aa} {cN:List Value} (ab:cJ ρ new cN) (a7:new.length=n*i.size)
 (ai:TD P w i z u xv n cN) {v:aa} (h:gm H i.size i.bytes sa n new=some (v,H')) (ao:ju ρ H.next H'.next):
 ∃x ρ' w',(Builtin.append_ #[t,u] ty #[sv,xv]).run P w=.ok x w'/\bj ρ' v x/\cp B ng H.objs.get H.next H'.next ρ w H'.objs.get H'.aG.get ρ' w':=by
 unfold gm at h;split at h
 .rename_i y ex c hl S;obtain⟨base,n',cap,rfl,bb,ar⟩:=TQ s ae S;obtain⟨az,c',he,bk⟩:=Zc ae hl;injection he with e1 e2 e3;obtain rfl:y=n':=e2.symm;clear e1 e3 az c';have bg:=lY ab;split at h
  ·
   rename_i J;have J:=gT J;split at h
   .cases h;cases ae;have aJ:n<=0:=by grind
    obtain rfl:n=0:=by omega
    exact⟨_,ρ,w,Sp ht hi hz ai none 0 0 (be _) w (λ a ha=>by cases ha) (λ _=>rfl),rfl,cp.refl s _ _⟩
   .rename_i v' off sLen' bd;split at h;.rename_i H1 hw;cases h;obtain⟨l,C,e',bn,hb,ac,aD,aQ,ba⟩:=SC s hw ab;obtain⟨aS,l2,bm,rfl⟩:=ahn ae (y+n);grind[Sp,xf,Sf]
    cases h
   cases h
  rename_i J;have J:=ae8 J;split at h
  .rename_i K aE al;have aq:(y+n)*i.bytes<=1099511627776:=gT (Vh.1 al).1;have ak:y+n<=1099511627776:=gT (Vh.1 al).2;obtain⟨D,aB,bf,aP⟩:=ZP (P:=P) s ae aE;have a5:=lY aB
   have grow:cap<y+n->(Builtin.append_ #[t,u] ty #[.slice base y cap,xv]).run P w=.ok (.slice (some ⟨w.heap.size,0,none⟩) (y+n) (grownCap w (y+n) cap e))
    (w.drew.alloc (.cells (D.toArray++cN.toArray++Builtin.zeroCells z.cells (grownCap w (y+n) cap e-(y+n))) e)):=λ hg=>
    ame ht hi hz ai base y cap hg aq ak D (aP w.drew rfl)
   have aU:=grownCap_ge w (y+n) cap e;have a3:=ald D cN z.cells y n (grownCap w (y+n) cap e) i.size (by omega) (by omega) aK aU;have aj:cJ ρ (K++new) (D++cN):=HU aB ab;have an:(K++new).length<=grownCap w (y+n) cap e*i.size:=by grind
   have a9:grownCap w (y+n) cap e*i.size/i.size=grownCap w (y+n) cap e:=Np _ aN;have aM:(w.drew.alloc (.cells (D.toArray++cN.toArray++Builtin.zeroCells z.cells (grownCap w (y+n) cap e-(y+n))) e)).heap=w.heap.push (.cells (D.toArray++cN.toArray++Builtin.zeroCells z.cells (grownCap w (y+n) cap e-(y+n))) e (0,0)):=rfl;split at h
   ·
    rename_i bo;cases h;have aY:=ar rfl;have aH:ρ H.next=none:=ao H.next (be _) (iW _);have aX:=SG s aH (λ v r hv=>⟨Vi (wf v r hv).1,Vi (wf v r hv).2⟩) (K++new) false i.size (grownCap w (y+n) cap e*i.size) a3 an (λ k=>by cases k) (λ j c S=>afX aj j c S) aM rfl rfl rfl;refine⟨_,fU ρ H.next (some ⟨w.heap.size,0,grownCap w (y+n) cap e*i.size,i.size⟩),_,grow (by omega),?_,?_⟩;.refine⟨_,hJ _ _ _,?_⟩;grind
    show cp B ng H.objs.get H.next (H.next+1) ρ w (H.objs.set H.next _).get (H.aG.set H.next _).get _ _;rw[wc,wc];exact aX
   split at h
   .rename_i v' off sLen';split at h
    .rename_i r hr;split at h
     .rename_i mem af aD am;cases h;obtain rfl:y=sLen':=by simpa[lenOf]using hl.symm
      obtain⟨l,ag,aV⟩:=ae;injection aV with a1 bh a0;subst a1;subst a0;obtain⟨l',C,e',fz,av,hb,ok⟩:=s.row v' r hr;rw[ag]at av;cases av;obtain rfl:=ok.fz af;have aH:ρ H.next=none:=ao H.next (be _) (iW _);have sub:∀u ru,(mG H.objs (r.start+off+y*i.size) mem).get u=some ru->H.objs.get u=some ru:=λ u ru G=>(tR mem _ u ru G).1
      have aW:=ok.sz;have aO:r.sz=i.size:=by grind[hY,beq_true]
      have au:l.sz=i.size:=by rw[aW,aO]
      let id:=H.next
      have a8:∀u ru,H.objs.get u=some ru->id≠u:=λ u ru G e1=>by have:=(wf u ru G).1;omega
      have ap:∀u ru m,fU (mG H.objs (r.start+off+y*i.size) mem).get id (some ⟨K++new,r.aC,r.start+off,false,false,i.size⟩) u=some ru->ru.ro=false->
       fU H.aG.get r.aC (some (id::mem)) ru.aC=some m->u∈m:=by
       intro u ru m G A hm;by_cases e1:id=u;.grind[hJ]
       .rw[fV _ e1]at G;have M:=sub u ru G;by_cases e2:r.aC=ru.aC;.rw[<-e2,hJ]at hm;cases hm;exact cz _ (s.aC u ru mem M A (by rw[<-e2];exact am))
        rw[fV _ e2]at hm;exact s.aC u ru m M A hm
      have Y:∀u ru,((mG H.objs (r.start+off+y*i.size) mem).set H.next (some ⟨K++new,r.aC,r.start+off,false,false,i.size⟩)).get u=some ru->ru.ro=true->H.objs.get u=some ru:=by grind[Tr.fT]
      by_cases ax:y+n<=(l.cap-off)/l.sz
      ·
       have ay:(y+n)*i.size<=l.cap-off:=by rw[au]at ax;exact fX (mQ _ ax) (Nat.div_mul_le_self _ _)
       rw[jR]at ay;have aZ:=ok.cap;by_cases a6:off<=l.cap
       .have ac:l.off+off+y*i.size+cN.length<=C.size:=by omega
        have aA:=Sp (ty:=ty) ht hi hz ai (some ⟨l.bC,l.off+off,none⟩) y ((l.cap-off)/l.sz) ax (putRow w l.bC (l.off+off+y*i.size) C cN) (λ a ha=>by grind[xf,Sf,RF]) (λ ha=>by cases ha)
        let F:Loc:=⟨l.bC,l.off+off,l.cap-off,i.size⟩
        have N:oV ρ (fU ρ id (some F)):=λ x lx hx=>by grind[fV]
        have s1:ez B ng ρ (mG H.objs (r.start+off+y*i.size) mem).get H.aG.get w.heap:=ez.sub s sub (λ f m hm u ru G A hf=>by subst hf;exact s.aC u ru m (sub u ru G) A hm)
        have s2:=s1.put (at_:=l.off+off+y*i.size) hb cN ac (λ u ru lu G L ad=>by
         have M:=sub u ru G;by_cases e1:u=v';.subst e1;rw[hr]at M;cases M;rw[ag]at L;cases L;have:=(tR mem _ u r G).2 (s.aC u r mem hr af am);omega
         rcases s.sep u v' ru r lu l e1 M hr L ag ad with⟨_,h2⟩|⟨h1,_,h3,h4⟩
         .rw[af]at h2;cases h2
         have:=(tR mem _ u ru G).2 (s.aC u ru mem M h1 (by rw[h3];exact am));omega)
        have aL:(putRow w l.bC (l.off+off+y*i.size) C cN).heap[F.bC]? =some (.cells (C.toList.take (l.off+off+y*i.size)++cN++C.toList.drop (l.off+off+y*i.size+cN.length)).toArray e' (0,0)):=IW w l.bC C _ e' _ hb;have s3:=(s2.mono N).Kx (fam':=fU H.aG.get r.aC (some (id::mem))) id F ⟨K++new,r.aC,r.start+off,false,false,i.size⟩ (hJ _ _ _) aL ?_ ?_ ap
        .refine⟨_,fU ρ id (some F),_,aA,⟨F,hJ _ _ _,?_⟩,?_⟩;.simp[F,au]
         refine⟨by grind[wc],λ x hx=>fV _ (λ k=>by grind) _,rfl,rfl,rfl,by simp[putRow],λ b a2 aR=>Kq w l.bC b _ (By (aR v' r l hr af ag)),λ u ru lu G A L=>?_,λ u ru G A=>Y u ru G A⟩
         grind[Tr.fT,hJ,fV]
        .refine⟨?_,?_,(λ k=>by cases k),rfl,λ _=>ok.own af,λ _=>rfl,λ j c S=>?_⟩;.grind
         .grind
         have S:(K++new)[j]? =some c:=S;by_cases hj:j<y*i.size
         .rw[xp (by omega)]at S;obtain⟨l3,C3,e3,bs,bc,aF,aI,_,aw,a4,aT⟩:=HL s (show bq H.objs.get v' off (y*i.size)=some K from by grind[eR])
          rw[ag]at aF;cases aF;rw[hb]at aI;cases aI;obtain⟨x,hx,Z⟩:=qN aw S;refine⟨x,?_,Bb N _ _ Z⟩;rw[Fp ac];grind
         rw[xo (by omega)]at S;obtain⟨x,hx,Z⟩:=qN ab S;refine⟨x,?_,Bb N _ _ Z⟩;have bi:j-K.length<cN.length:=(mR.1 hx).1;rw[Fp ac];grind
        intro u ru lu ne G L ad;have M:=sub u ru G;rw[fV _ (By ne)]at L;by_cases e1:u=v';.grind
        rcases s.sep u v' ru r lu l e1 M hr L ag ad with⟨_,h2⟩|⟨h1,_,h3,h4⟩
        .rw[af]at h2;cases h2
        grind
       exfalso;simp only[hY,hr]at S;split at S;.rename_i ho;have:=gT ho;have:=ok.len;omega
       cases S
      ·
       have hg:(l.cap-off)/l.sz<y+n:=by omega
       let F:Loc:=⟨w.heap.size,0,grownCap w (y+n) ((l.cap-off)/l.sz) e*i.size,i.size⟩
       have N:oV ρ (fU ρ id (some F)):=λ x lx hx=>by grind[fV]
       have s1:ez B ng ρ (mG H.objs (r.start+off+y*i.size) mem).get H.aG.get w.heap:=ez.sub s sub (λ f m hm u ru G A hf=>by subst hf;exact s.aC u ru m (sub u ru G) A hm);have s3:=((s1.mono N).push (.cells (D.toArray++cN.toArray++Builtin.zeroCells z.cells (grownCap w (y+n) ((l.cap-off)/l.sz) e-(y+n))) e (0,0))).Kx (fam':=fU H.aG.get r.aC (some (id::mem))) id F ⟨K++new,r.aC,r.start+off,false,false,i.size⟩ (hJ _ _ _) (C:=D.toArray++cN.toArray++Builtin.zeroCells z.cells (grownCap w (y+n) ((l.cap-off)/l.sz) e-(y+n))) (e:=e) (fz:=(0,0)) (by simp[F]) ?_ ?_ ap
       .refine⟨_,fU ρ id (some F),_,grow hg,⟨F,hJ _ _ _,?_⟩,?_⟩;.grind
        refine⟨by grind[wc],λ x hx=>fV _ (λ k=>by grind) _,rfl,rfl,rfl,by simp,λ b a2 _=>?_,λ u ru lu G A L=>?_,λ u ru G A=>Y u ru G A⟩
        .grind
        grind[Tr.fT,hJ,fV]
       .refine⟨an,?_,(λ k=>by cases k),rfl,λ _=>s.base,λ _=>rfl,λ j c S=>?_⟩;.grind
        obtain⟨x,hx,Z⟩:=afX (z:=z.cells) (k:=grownCap w (y+n) ((l.cap-off)/l.sz) e-(y+n)) aj j c S;grind[Bb]
       intro u ru lu ne G L ad;rw[fV _ (By ne)]at L;obtain⟨l4,C4,e4,br,bl,bp,_⟩:=s1.row u ru G;grind
     cases h
    cases h
   cases h
  cases h
 .cases h
end
section
open Go
variable{T:Tr aa}
variable{P:Program}{B ng n:Nat}{ρ:cr}
def ye(ng:Nat)(ρ:cr):Prop:=∀g,g<ng->∃c s,ρ g=some ⟨g,0,c,s⟩
theorem fP(D:fi ρ n T a.tmps)(y:ye ng ρ){x:Operand}{v:aa}(h:aU ng T x=some v):bj ρ v (a.eval x):=by
 cases x with
 |tmp t=>cases h;exact D.get t
 |const c=>exact abK h
 |global g=>
  have h:Bool.rec (motive:=λ _=>Option aa) none (some (.ptr g 0)) (Nat.ble (g+1) ng)=some v:=h;cases e:Nat.ble (g+1) ng;.rw[e]at h;cases h
  rw[e]at h;cases h;obtain⟨c,s,A⟩:=y g (gT e);exact⟨_,A,rfl⟩
 |func f=>cases h;exact⟨[],[],rfl,rfl,rfl⟩
def Qw{x:Operand}{xs:List Operand}:jo ng T (x::xs)=zr (aU ng T x) (jo ng T xs):=rfl
def Gt(A:fi ρ n T a.tmps)(y:ye ng ρ):∀{xs:List Operand} {vs:List aa},jo ng T xs=some vs->cJ ρ vs (xs.map a.eval)
 |[],vs,h=>by cases h;rfl
 |x::xs,vs,h=>by
  rw[Qw]at h;unfold zr at h;split at h;.rename_i v l D F;cases h;exact dg.2 ⟨_,_,rfl,fP A y D,Gt A y F⟩
  cases h
theorem Tv(D:fi ρ n T a.tmps)(A:ye ng ρ):∀{xs:List (Nat×Operand)} {vs:List (Nat×aa)},my ng T xs=some vs->
 vs.map (·.1)=xs.map (·.1)/\cJ ρ (vs.map (·.2)) (xs.map λ p=>a.eval p.2)
 |[],vs,h=>by simp only[my,lz]at h;subst h;exact⟨rfl,rfl⟩
 |(i,x)::xs,vs,h=>by
  simp only[my]at h;split at h;.rename_i v l F y;cases h;obtain⟨J,G⟩:=Tv D A y;grind[dg,fP]
  cases h
theorem C8{z:aa}(h:ig P t=some z):∃i v,P.info? t=some i/\i.zero=some v/\∀ρ,bj ρ z v:=by grind[ig,abK]
theorem WI(cells:Array Value)(off:Nat):∀(vs:List Value) (k:Nat) (cs:Array Value),off+k+vs.length<=cs.size->
 (vs.zipIdx k).foldl (λ (cs:Array Value) (p:Value×Nat)=>cs.setIfInBounds (off+p.2) p.1) cs=(cs.toList.take (off+k)++vs++cs.toList.drop (off+k+vs.length)).toArray
 |[],k,cs,_=>by simp
 |v::vs,k,cs,h=>by
  simp only[Nq,Vj];simp only[cD]at h;rw[WI cells off vs (k+1) _ (by simp;omega)];apply xq;simp only[Array.toList_setIfInBounds];apply xr;intro j;have A:off+(k+1)+vs.length<=(cs.toList.set (off+k) v).length:=by simp;omega
  rw[SZ _ _ _ _ A,cD];have y:off+k+(v::vs).length<=cs.toList.length:=by simp;omega
  have:=SZ cs.toList (v::vs) (off+k) j y;rw[cD]at this;grind
theorem U5{A:Nat->Option (Nat×Nat)}{place':Nat->Option (Nat×Nat)}(hp:∀i p,A i=some p->place' i=some p):
 ∀{l:List (Nat×aa)} {l':List (Nat×Value)} {cells cs:List aa} {C:Array Value},l.map (·.1)=l'.map (·.1)->cJ ρ (l.map (·.2)) (l'.map (·.2))->cJ ρ cells C.toList->fill A cells l=some cs->∃K,Instr.fill place' C l'=some K/\cJ ρ cs K.toList/\K.size=C.size
 |[],l',cells,cs,C,G,_,S,h=>by
  simp only[fill,lz]at h;subst h;cases l';.exact⟨C,rfl,S,rfl⟩
  simp at G
 |(i,v)::l,l',cells,cs,C,G,h2,S,h=>by
  cases l';.simp at G
  rename_i p l';obtain⟨j,x⟩:=p;simp only[fL,rG]at G;obtain⟨rfl,G⟩:=G;simp only[fL]at h2;obtain⟨y,ys,he,hv,hr⟩:=dg.1 h2;simp only[rG]at he;obtain⟨rfl,rfl⟩:=he;simp only[fill]at h;split at h;.cases h
  rename_i off size M;split at h
  .rename_i Y D;have Y:=beq_true Y;have D:=gT D;have L:=yT hv;have J:=lY L;have N:=lY S;simp only[Instr.fill,hp i _ M];have F:off+x.cells.size<=C.size:=by simp at J N;omega
   rw[aj (by simp at J⊢;omega)];have hf:x.cells.zipIdx.foldl (λ cs (p:Value×Nat)=>cs.setIfInBounds (off+p.2) p.1) C=(C.toList.take off++x.cells.toList++C.toList.drop (off+x.cells.toList.length)).toArray:=by rw[<-aio,Array.toList_zipIdx];have:=WI C off x.cells.toList 0 C (by simpa using F);simpa using this
   obtain⟨K,ac,Z,ab⟩:=U5 hp (l':=l') (C:=(C.toList.take off++x.cells.toList++C.toList.drop (off+x.cells.toList.length)).toArray) G hr (by grind[ep,HU,apt,avR]) h
   grind
  cases h
end
section
open Go
variable{a b ix v:aa}{op:BinOp}{y:Operand}
variable{P:Program}{B ng n:Nat}{ρ:cr}
def M5{s:Sem Value}(h:qo s=some v):∃x,(∀ρ,bj ρ v x)/\∀(P:Program) w,s.run P w=.ok x w:=by
 cases s with
 |pure x=>exact⟨x,λ ρ=>UT h,λ P w=>rfl⟩
 |_=>cases h
theorem qp(op:BinOp)(t:TypeId)(x y:Operand)(a b:Value)(h:∀(c d:Array Value),¬(a=.agg c/\b=.agg d))(A:¬(a=.nilIface/\b=.nilIface))(w:World):
 (eqGuard op t x y a b).run P w=.ok () w:=by
 unfold eqGuard;simp_all
theorem XM(d:Nat):∀(fs:List Field) (k:Nat) (xs K:List aa) (D A:Array Value) (b:Bool),ET P k fs=true->
 cJ ρ xs (D.toList.drop k)->cJ ρ K (A.toList.drop k)->nQ P fs xs K=some b->∀w,(Op.eqFields (d+1) D A fs).run P w=.ok b w
 |[],k,xs,K,D,A,b,_,_,_,h,w=>by
  cases xs
  .cases K;.simp only[nQ,lz]at h;subst h;simp[Op.eqFields]
   simp[nQ]at h
  simp[nQ]at h
 |f::fs,k,[],K,D,A,b,_,_,_,h,_=>by simp[nQ]at h
 |f::fs,k,x::xs,[],D,A,b,_,_,_,h,_=>by simp[nQ]at h
 |f::fs,k,x::xs,y::K,D,A,b,N,rx,ry,h,w=>by
  simp only[ET,aR]at N;obtain⟨⟨⟨S,h2⟩,h3⟩,h4⟩:=N;have h2:=beq_true h2;obtain⟨p,ps,M,N,rp⟩:=dg.1 rx;obtain⟨q,qs,L,hq,rq⟩:=dg.1 ry
  have gx:D[k]? =some p:=by
   have:(D.toList.drop k)[0]? =some p:=by rw[M];rfl
   grind
  have gy:A[k]? =some q:=by
   have:(A.toList.drop k)[0]? =some q:=by rw[L];rfl
   grind
  have dx:cJ ρ xs (D.toList.drop (k+1)):=by
   have:D.toList.drop (k+1)=ps:=by rw[<-pG,M];rfl
   rw[this];exact rp
  have dy:cJ ρ K (A.toList.drop (k+1)):=by
   have:A.toList.drop (k+1)=qs:=by rw[<-pG,L];rfl
   rw[this];exact rq
  have ab:f.name≠ "_":=by simpa using h3
  have ih:=λ b' Z=>XM d fs (k+1) xs K D A b' h4 dx dy Z w
  have G:∀(c:Array Value) (r:Value),c[k]? =some r->(part f.type c f.offset).run P w=.ok r w:=by
   intro c r hc;rw[h2];cases J:P.underlying f.type;.rw[J]at S;cases S
   rename_i dd;rw[J]at S;cases dd<;>first|(cases S;done)|simp[part,isAgg,run_underlying J,hc]
  simp only[Op.eqFields,ab,ne_eq,not_false_eq_true,jz,Sem.run_bind,G _ _ gx,G _ _ gy,Result.andThen_ok];cases x with
  |int k1 a1=>
   cases y with
   |int k2 a2=>
    cases N;cases hq;simp only[nQ]at h;split at h
    .rename_i kk J Y;have Y:k1=k2:=jk Y;subst Y;split at h;.rename_i F;have F:a1=a2:=jk F;subst F;simp[Op.equalIn,run_underlying J,ih b h]
     rename_i F;have F:a1≠a2:=xt F;cases h;simp[Op.equalIn,run_underlying J,F]
    cases h
   |_=>simp[nQ]at h
  |bool b1=>
   cases y with
   |bool b2=>
    cases N;cases hq;simp only[nQ]at h;split at h
    .rename_i J;split at h
     .rename_i F;have F:b1=b2:=by simpa using F
      subst F;simp[Op.equalIn,run_underlying J,ih b h]
     rename_i F;have F:b1≠b2:=by simpa using F
     cases h;simp[Op.equalIn,run_underlying J,F]
    cases h
   |_=>simp[nQ]at h
  |_=>simp[nQ]at h
set_option maxHeartbeats 4000000 in
def aAW(d:Nat)(F:bj ρ a p)(D:bj ρ b q)(h:qb P t a b=some r):∀w,(Op.equalIn (d+1+1) t p q).run P w=.ok r w:=by
 intro w;unfold qb at h;split at h;.rename_i b1 b2 A;cases h;cases F;cases D;simp[Op.equalIn,run_underlying A]
 .rename_i e A;cases h;cases F;cases D;simp[Op.equalIn,run_underlying A]
 .rename_i e v off len G A;cases h;cases F;cases G<;>(obtain⟨l,N,rfl⟩:=D;simp[Op.equalIn,run_underlying A])
 .rename_i e v off len G A;cases h;cases D;cases G<;>(obtain⟨l,N,rfl⟩:=F;simp[Op.equalIn,run_underlying A])
 .rename_i e A;cases h;cases F;obtain⟨x,c,rfl⟩:=D;simp[Op.equalIn,run_underlying A]
 .rename_i e A;cases h;cases D;obtain⟨x,c,rfl⟩:=F;simp[Op.equalIn,run_underlying A]
 .rename_i e A;cases h;cases F;cases D;simp[Op.equalIn,run_underlying A]
 .rename_i e v off A;cases h;cases F;obtain⟨l,N,rfl⟩:=D;simp[Op.equalIn,run_underlying A]
 .rename_i e v off A;cases h;cases D;obtain⟨l,N,rfl⟩:=F;simp[Op.equalIn,run_underlying A]
 .rename_i Z Y S A;cases h;cases F;cases D;simp[Op.equalIn,run_underlying A]
 .rename_i Z Y S f c d A;cases h;cases F;obtain⟨xs,M,rfl,_,_⟩:=D;simp[Op.equalIn,run_underlying A]
 .rename_i Z Y S f c d A;cases h;cases D;obtain⟨xs,M,rfl,_,_⟩:=F;simp[Op.equalIn,run_underlying A]
 .rename_i fs xs M A;split at h
  .rename_i h1 h2 h3 h4 h5;obtain⟨K,rfl,rx⟩:=F;obtain⟨J,rfl,ry⟩:=D;have L:P.fieldsOf t=fs:=by simp[Program.fieldsOf,A]
   rw[run_equalIn_struct w (d+1) t ⟨K⟩ ⟨J⟩ (by rw[L];exact A) h1,L];exact XM d fs.toList 0 xs M ⟨K⟩ ⟨J⟩ r h3 (by simpa using rx) (by simpa using ry) h w
  cases h
 cases h
def ZX(D:bj ρ a p)(A:bj ρ b q)(h:qb P t a b=some r):∀w,(Op.equal t p q).run P w=.ok r w:=aAW 9998 D A h
theorem binOp_eql(hi:∀k n A m,¬(p=.int k n/\q=.int A m))(D:∀a b,¬(p=.string a/\q=.string b))(F:∀k n A m,¬(p=.float k n/\q=.float A m))(G:∀k a b A c d,¬(p=.complex k a b/\q=.complex A c d)):
 Go.binOp .eql t p q=(do pure (.bool (<-Op.equal t p q)):Sem Value)/\Go.binOp .neq t p q=(do pure (.bool (!(<-Op.equal t p q))):Sem Value):=by
 cases p<;>cases q<;>first|exact⟨rfl,rfl⟩|exact absurd ⟨rfl,rfl⟩ (hi _ _ _ _)|exact absurd ⟨rfl,rfl⟩ (D _ _)|exact absurd ⟨rfl,rfl⟩ (F _ _ _ _)|grind
theorem aan{x:Operand}(A:bj ρ a p)(D:bj ρ b q)(h:qb P t a b=some r):∀w,(eqGuard op t x y p q).run P w=.ok () w:=by
 intro w;unfold qb at h;split at h;.cases A;grind[qp]
 .cases A;grind[qp]
 .cases A;grind[qp]
 .cases D;grind[qp]
 .cases A;grind[qp]
 .cases D;grind[qp]
 .cases A;grind[qp]
 .cases A;grind[qp]
 .cases D;grind[qp]
 .cases A;grind[qp]
 .cases A;grind[qp]
 .cases D;grind[qp]
 .split at h;.rename_i S J h3 N M;obtain⟨G,rfl,L⟩:=A;obtain⟨F,rfl,K⟩:=D;unfold eqGuard;cases op<;>simp[J]
  cases h
 cases h
def Wj:aa->Bool
 |.int .. =>false
 |.str _=>false
 |_=>true
theorem atZ(A:bj ρ a p)(h:Wj a=true):(∀k n,p≠.int k n)/\(∀s,p≠.string s)/\(∀k n,p≠.float k n)/\(∀k c d,p≠.complex k c d):=by
 cases a with
 |int k n=>cases h
 |str s=>cases h
 |slice v off len D=>cases D<;>(obtain⟨l,F,rfl⟩:=A;simp)
 |ptr v off=>obtain⟨l,F,rfl⟩:=A;simp
 |dq=>obtain⟨x,c,rfl⟩:=A;simp
 |func f c d=>obtain⟨xs,G,rfl,_,_⟩:=A;simp
 |agg cs=>obtain⟨xs,rfl,_⟩:=A;simp
 |tuple cs=>obtain⟨xs,rfl,_⟩:=A;simp
 |bool b=>cases A;simp
 |nilPtr=>cases A;simp
 |ai=>cases A;simp
 |nilFunc=>cases A;simp
 |iface=>rcases A with rfl|⟨_,_,rfl⟩<;>simp
theorem alS(h:qb P t a b=some r):Wj a=true:=by unfold qb at h;split at h<;>first|rfl|cases h
theorem auh{x:Operand}(G:bj ρ a p)(F:bj ρ b q)(h:cV P op t a b=some v):
 ∃r,bj ρ v r/\∀w,(do eqGuard op t x y p q;Go.binOp op t p q:Sem Value).run P w=.ok r w:=by
 unfold cV at h;split at h;.cases G;cases F;obtain⟨r,D,A⟩:=M5 h;refine⟨r,D ρ,λ w=>?_⟩;rw[Sem.run_bind,qp op t x y _ _ (λ _ _ k=>by cases k.1) (λ k=>by cases k.1) w];exact A P w
 .cases G;cases F;obtain⟨r,D,A⟩:=M5 h;refine⟨r,D ρ,λ w=>?_⟩;rw[Sem.run_bind,qp op t x y _ _ (λ _ _ k=>by cases k.1) (λ k=>by cases k.1) w];exact A P w
 .have J:∀r,qb P t a b=some r->Go.binOp .eql t p q=(do pure (.bool (<-Op.equal t p q)):Sem Value)/\Go.binOp .neq t p q=(do pure (.bool (!(<-Op.equal t p q))):Sem Value):=by grind[atZ,alS,binOp_eql]
  split at h
  .split at h;.rename_i r D;cases h;refine⟨.bool r,rfl,λ w=>?_⟩;rw[Sem.run_bind,aan G F D w,Result.andThen_ok,(J r D).1,Sem.run_bind,ZX G F D w];rfl
   cases h
  .split at h;.rename_i r D;cases h;refine⟨.bool (!r),rfl,λ w=>?_⟩;rw[Sem.run_bind,aan G F D w,Result.andThen_ok,(J r D).2,Sem.run_bind,ZX G F D w];rfl
   cases h
  cases h
def aoZ(G:bj ρ a p)(h:vM (some a)=some v):v=a/\∀(A:Operand->Value) (o:Oper) (x:Operand),o.op=.nilCheck x->A x=p->∀w,(execOp A o).run P w=.ok (.value p) w:=by
 cases a with
 |ptr u off=>
  cases h;obtain⟨l,K,rfl⟩:=G;refine⟨rfl,λ A o x F D w=>?_⟩;simp[execOp,F,D]
 |func f c d=>
  cases h;obtain⟨xs,J,rfl,_,_⟩:=G;refine⟨rfl,λ A o x F D w=>?_⟩;simp[execOp,F,D]
 |_=>cases h
def atw{s:TypeId}{f:Nat}(K:bj ρ a p)(h:gv P s a f=some v):∃r,bj ρ v r/\∀w,(Instr.fieldAt s p f).run P w=.ok r w:=by
 unfold gv at h;split at h
 .rename_i fs u off G;obtain⟨l,J,rfl⟩:=K;split at h
  .rename_i fd F;split at h
   .rename_i i hi;split at h
    .rename_i A;cases h;have A:=beq_false A;refine⟨.pointer (some ⟨l.bC,l.off+(off+fd.offset),none⟩),⟨l,J,rfl⟩,λ w=>?_⟩;have D:fs[f]? =some fd:=by simpa using F
     simp[Instr.fieldAt,run_underlying G,D,Instr.sureAddr,fieldPlace,sizeOf,typeInfo,hi,A,xf,Bz]
    cases h
   cases h
  cases h
 cases h
def asb(K:bj ρ a p)(hi:bj ρ ix q)(h:iM P t a ix=some v):∃r,bj ρ v r/\∀w,(Instr.indexAt t p q).run P w=.ok r w:=by
 unfold iM at h;split at h
 .rename_i len e u off k i F;obtain⟨l,D,rfl⟩:=K;cases hi;split at h
  .rename_i j A G;cases h;have A:=gT A;refine⟨.pointer (some ⟨l.bC,l.off+(off+i*j.size),none⟩),⟨l,D,rfl⟩,λ w=>?_⟩;have M:(0:Int)<=(Int.ofNat i)/\(Int.ofNat i)<(len:Int):=by constructor<;>simp<;>omega
   simp[Instr.indexAt,asIntOf,run_underlying F,Instr.sureAddr,sizeOf,typeInfo,G,xf,Bz];intro L;exfalso;omega
  cases h
 .rename_i e u off len J k i F;cases hi;split at h
  .rename_i j A G;cases h;have A:=gT A;cases J;.obtain⟨l,D,rfl⟩:=K;refine⟨.pointer (some ⟨l.bC,l.off+(off+i*j.size),none⟩),⟨l,D,rfl⟩,λ w=>?_⟩;simp[Instr.indexAt,asIntOf,run_underlying F,sizeOf,typeInfo,G,xf,Bz];intro L;exfalso;omega
   rename_i c;obtain⟨l,D,rfl⟩:=K;refine⟨.pointer (some ⟨l.bC,l.off+(off+i*j.size),none⟩),⟨l,D,rfl⟩,λ w=>?_⟩;simp[Instr.indexAt,asIntOf,run_underlying F,sizeOf,typeInfo,G,xf,Bz];intro L;exfalso;omega
  cases h
 cases h
def axS(J:bj ρ a p)(hi:bj ρ ix q)(h:yp P t a ix=some v):∃r,bj ρ v r/\∀w,(Instr.index t p q).run P w=.ok r w:=by
 unfold yp at h;split at h
 .rename_i s k i G;cases J;cases hi;split at h
  .rename_i b F;cases h;refine⟨.int .u8 b.toNat,rfl,λ w=>?_⟩;have D:(⟨⟨s⟩⟩:ByteArray)[i]? =some b:=by have A:i<s.length:=(mR.1 F).1;rw[getElem?_pos (⟨⟨s⟩⟩:ByteArray) i A,<-F,cW A];rfl
   simp[Instr.index,asIntOf,run_underlying G,D]
  cases h
 cases h
def as3(A:ts[0]? =some t)(F:bj ρ a p)(h:dD P t a=some v):∃r,bj ρ v r/\∀w,(Builtin.len_ ts ty #[p]).run P w=.ok r w:=by
 unfold dD at h;split at h;.rename_i s D;cases h;cases F;refine⟨.int .i64 s.length,rfl,λ w=>?_⟩;simp[Builtin.len_,A,run_underlying D,goInt];rfl
 .rename_i e D;cases h;cases F;exact⟨.int .i64 0,rfl,λ w=>by simp[Builtin.len_,A,run_underlying D,goInt]⟩
 .rename_i e D;cases h;obtain⟨x,c,rfl⟩:=F;exact⟨.int .i64 0,rfl,λ w=>by simp[Builtin.len_,A,run_underlying D,goInt]⟩
 .rename_i e u off m G D;cases h;cases G;.obtain⟨l,J,rfl⟩:=F;exact⟨.int .i64 m,rfl,λ w=>by simp[Builtin.len_,A,run_underlying D,goInt]⟩
  rename_i c;obtain⟨l,J,rfl⟩:=F;exact⟨.int .i64 m,rfl,λ w=>by simp[Builtin.len_,A,run_underlying D,goInt]⟩
 .rename_i y m e D;cases h;exact⟨.int .i64 m,rfl,λ w=>by simp[Builtin.len_,A,run_underlying D,goInt]⟩
 cases h
end
section
open Go
variable{v:aa}
variable{P:Program}{B ng n:Nat}{ρ:cr}
theorem awS{c a b:Option aa}(h:vJ c a b=some v):(∃y,c=some (.bool true)/\a=some v/\b=some y)\/(∃y,c=some (.bool false)/\a=some y/\b=some v):=by unfold vJ at h;grind
theorem ar2{fs:Array Field}{p:Nat×Nat}(h:C0 P fs i=some p):∃f j,fs[i]? =some f/\P.info? f.type=some j/\p=(f.offset,j.size):=by grind[C0]
def zI(P:Program)(fs:List Field):List (Nat×Nat):=fs.map λ f=>(f.offset,P.cellsOf f.type)
def Z5(w:World):∀(fs:List Field),fs.all (λ f=>(P.info? f.type).isSome)=true->
 (fs.mapM λ f=>(do pure (f.offset,<-sizeOf f.type):Sem (Nat×Nat))).run P w=.ok (zI P fs) w
 |[],_=>by simp[zI]
 |f::fs,h=>by simp only[ug,aR]at h;have A:=Z5 w fs h.2;obtain⟨j,y⟩:=pI.1 h.1;simp only[List.mapM_cons,Sem.run_bind,sizeOf,typeInfo,run_program,Result.andThen_ok,y,Sem.run_pure]at A⊢;rw[A];simp[zI,Program.cellsOf,y]
theorem avH{l:List (Nat×aa)}{l':List (Nat×Value)}(h1:l.map (·.1)=l'.map (·.1))(h2:cJ ρ (l.map (·.2)) (l'.map (·.2)))(h:lP P t (some l)=some v):
 ∃r,bj ρ v r/\∀w,(Instr.build t l'.toArray).run P w=.ok r w:=by
 unfold lP at h;split at h
 .rename_i z fs l0 K L D;cases D;split at h
  .rename_i G;split at h
   .rename_i cs S;cases h;obtain⟨i,Z,hi,y,A⟩:=C8 K;have J:∀w,(fs.mapM λ f=>(do pure (f.offset,<-sizeOf f.type):Sem (Nat×Nat))).run P w=.ok (zI P fs.toList).toArray w:=by intro w;have h3:=Z5 (P:=P) w fs.toList G;obtain⟨fl⟩:=fs;grind[Sem.run_map,Result.andThen_ok]
    have M:∀(i:Nat) p,C0 P fs i=some p->(zI P fs.toList).toArray[i]? =some p:=by grind[ar2,zI,Program.cellsOf]
    obtain⟨C',Y,F,_⟩:=U5 (place':=λ i=>(zI P fs.toList)[i]?) (λ i p hp=>by simpa using M i p hp) (C:=Z.cells) h1 h2 (yT (A ρ)) S;refine⟨.agg C',⟨C'.toList,rfl,F⟩,λ w=>?_⟩;simp only[Instr.build,zeroValue,typeInfo,Sem.run_bind,run_program,Result.andThen_ok,hi,y,Sem.run_pure,run_underlying L,J];simp[Y]
   cases h
  cases h
 .rename_i cs m e K L D;cases D;split at h
  .rename_i ie N;cases h;obtain⟨i,Z,hi,y,A⟩:=C8 K;have hl:l'=[]:=by cases l' with|nil=>rfl|cons _ _=>simp at h1
   subst hl;obtain⟨C,rfl,hC⟩:=A ρ;refine⟨.agg ⟨C⟩,⟨C,rfl,hC⟩,λ w=>?_⟩;simp only[Instr.build,zeroValue,typeInfo,Sem.run_bind,run_program,Result.andThen_ok,hi,y,Sem.run_pure,run_underlying L,sizeOf,N];simp[Instr.fill,Value.cells]
  cases h
 .cases h
theorem Wm{T:Tr aa}(G:fi ρ n T a.tmps)(F:ye ng ρ)(h:kP P ng T o.op=some v):
 ∃x,bj ρ v x/\∀w,(execOp a.eval o).run P w=.ok (.value x) w:=by
 obtain⟨dst,op,Z,pos,ac,guard⟩:=o;cases op with
 |move x=>exact⟨_,fP G F h,λ w=>by simp[execOp]⟩
 |assign x=>exact⟨_,fP G F h,λ w=>by simp[execOp]⟩
 |pick c x y=>
  rcases awS h with⟨y',L,N,h3⟩|⟨y',L,N,h3⟩
  .have D:=fP G F L;have D:a.eval c=.bool true:=D;exact⟨_,fP G F N,λ w=>by simp[execOp,D,asBool]⟩
  have D:a.eval c=.bool false:=fP G F L;exact⟨_,fP G F h3,λ w=>by simp[execOp,D,asBool]⟩
 |build t ps=>
  change lP P t (my ng T ps.toList)=some v at h;cases hp:my ng T ps.toList;.rw[hp]at h;unfold lP at h;grind
  rename_i l;rw[hp]at h;obtain⟨L,N⟩:=Tv G F hp;obtain⟨r,M,A⟩:=avH (l':=ps.toList.map λ p=>(p.1,a.eval p.2)) (by rw[L];simp) (by simpa[Function.comp_def]using N) h;refine⟨r,M,λ w=>?_⟩;have e:(ps.map λ p=>(p.1,a.eval p.2))=(ps.toList.map λ p=>(p.1,a.eval p.2)).toArray:=by apply xq;simp
  simp only[execOp,Sem.run_bind];simp_all
 |nilCheck x=>
  change vM (aU ng T x)=some v at h;cases K:aU ng T x;.rw[K]at h;cases h
  rename_i u;rw[K]at h;have D:=fP G F K;obtain⟨rfl,A⟩:=aoZ (P:=P) D h;grind
 |binOp op t x y yt=>
  change xX P op t (aU ng T x) (aU ng T y)=some v at h;unfold xX at h;split at h;.rename_i p q K Y;obtain⟨r,M,A⟩:=auh (x:=x) (y:=y) (fP G F K) (fP G F Y) h;refine⟨r,M,λ w=>?_⟩;have:=A w;simp only[execOp,Sem.run_bind]at this⊢;rw[this];rfl
  cases h
 |unOp op t x=>
  change yw op (aU ng T x)=some v at h;unfold yw at h;split at h
  .rename_i p K;have D:=fP G F K;unfold Ee at h;split at h;.have D:a.eval x=.int _ _:=D;obtain⟨r,M,A⟩:=M5 h;exact⟨r,M ρ,λ w=>by simp only[execOp,Sem.run_bind,D,A P w];rfl⟩
   .have D:a.eval x=.bool _:=D;obtain⟨r,M,A⟩:=M5 h;exact⟨r,M ρ,λ w=>by simp only[execOp,Sem.run_bind,D,A P w];rfl⟩
   cases h
  cases h
 |convert s d x=>
  change rh P s d (aU ng T x)=some v at h;unfold rh at h;split at h;.rename_i ds k kk m hs hd K;cases h;have D:a.eval x=.int kk m:=fP G F K;refine⟨.int k (k.wrap m),rfl,λ w=>?_⟩;simp[execOp,Go.convert,run_underlying hs,run_underlying hd,D,Conv.intToInt]
  cases h
 |makeFunc fn first cap=>
  change N2 ng T fn first cap=some v at h
  cases fn with
  |func f=>
   change Be f (jo ng T first.toList) (jo ng T cap.toList)=some v at h;unfold Be at h;split at h
   .rename_i p q L N;cases h;refine⟨.func (.func f) ⟨first.toList.map a.eval⟩ ⟨cap.toList.map a.eval⟩,⟨_,_,rfl,Gt G F L,Gt G F N⟩,λ w=>?_⟩;simp only[execOp,Instr.makeFunc,Sem.run_bind,Sem.run_pure,Result.andThen_ok];have D:Array.map a.eval first=⟨List.map a.eval first.toList⟩:=by apply xq;simp
    have S:Array.map a.eval cap=⟨List.map a.eval cap.toList⟩:=by apply xq;simp
    rw[D,S]
   cases h
  |_=>cases h
 |fieldAddr s x f=>
  change xQ P s f (aU ng T x)=some v at h;unfold xQ at h;split at h;.rename_i p K;obtain⟨r,M,A⟩:=atw (fP G F K) h;exact⟨r,M,λ w=>by simp only[execOp,Sem.run_bind,A w];rfl⟩
  cases h
 |indexAddr t x ix=>
  change zd P t (aU ng T x) (aU ng T ix)=some v at h;unfold zd at h;split at h;.rename_i p q K hi;obtain⟨r,M,A⟩:=asb (fP G F K) (fP G F hi) h;exact⟨r,M,λ w=>by simp only[execOp,Sem.run_bind,A w];rfl⟩
  cases h
 |index t x ix=>
  change yB P t (aU ng T x) (aU ng T ix)=some v at h;unfold yB at h;split at h;.rename_i p q K hi;obtain⟨r,M,A⟩:=axS (fP G F K) (fP G F hi) h;exact⟨r,M,λ w=>by simp only[execOp,Sem.run_bind,A w];rfl⟩
  cases h
 |extract x i=>
  change yI i (aU ng T x)=some v at h;unfold yI at h;split at h;.rename_i vs K;obtain⟨xs,he,ab⟩:=fP G F K;obtain⟨y,Y,M⟩:=qN ab h;refine⟨y,M,λ w=>?_⟩;simp[execOp,he,Instr.extract,Y]
  cases h
 |call c=>
  obtain⟨J,args,ts⟩:=c;change wm P ng T ⟨J,args,ts⟩=some v at h;unfold wm at h;split at h
  .rename_i t rest x L N h3;have L:J=.builtin .len:=L;have N:ts.toList=t::rest:=N;have h3:args.toList=[x]:=h3;subst L;split at h
   .rename_i p K;obtain⟨r,M,A⟩:=as3 (ty:=Z) (ts:=ts) (by rw[<-Vk,N];rfl) (fP G F K) h;refine⟨r,M,λ w=>?_⟩;have ha:args= #[x]:=by apply xq;simpa using h3
    subst ha;simp[execOp,resolve,invoke,Go.builtin,A w]
   cases h
  .rename_i x y L h3;have L:J=.builtin .min:=L;have h3:args.toList=[x,y]:=h3;subst L;split at h
   .rename_i k p k' q K Y;cases h;have ha:args= #[x,y]:=by apply xq;simpa using h3
    subst ha;have D:=fP G F K;have S:=fP G F Y;refine⟨.int k (if q<p then q else p),rfl,λ w=>?_⟩;have D:a.eval x=.int k p:=D;have S:a.eval y=.int k' q:=S;simp[execOp,resolve,invoke,Go.builtin,Builtin.min_,Builtin.min2,D,S]
   cases h
  .rename_i x y L h3;have L:J=.builtin .max:=L;have h3:args.toList=[x,y]:=h3;subst L;split at h
   .rename_i k p k' q K Y;cases h;have ha:args= #[x,y]:=by apply xq;simpa using h3
    subst ha;have D:=fP G F K;have S:=fP G F Y;refine⟨.int k (if p<q then q else p),rfl,λ w=>?_⟩;have D:a.eval x=.int k p:=D;have S:a.eval y=.int k' q:=S;simp[execOp,resolve,invoke,Go.builtin,Builtin.max_,Builtin.max2,D,S]
   cases h
  cases h
 |_=>cases h
end
section
open Go
variable{T:Tr aa}{g g' obj:Nat->Option Row}{v:aa}
variable{P:Program}{B ng n:Nat}{ρ:cr}
theorem ahr{w:World}(s:ez B ng ρ obj aC w.heap){a:aa}(ha:bj ρ a p)(h:de P obj t a=some v):
 ∃r,bj ρ v r/\(Instr.loadAt t p).run P w=.ok r w:=by
 unfold de at h;split at h
 .rename_i x off;obtain⟨l,Z,rfl⟩:=ha;split at h
  .rename_i d i hd hi;split at h
   .rename_i A;split at h
    .rename_i cs K;cases h;obtain⟨l',C,e,fz,xs,F,hb,N,D,M,G⟩:=HL s K;rw[Z]at F;cases F;refine⟨.agg ⟨xs⟩,⟨xs,rfl,D⟩,?_⟩;have S:=run_loadCells_list (P:=P) w ⟨l.bC,l.off+off,none⟩ xs (λ j y Y=>by rw[ZI hb];exact G j y Y);rw[M]at S;have J:(isAgg t).run P w=.ok true w:=by unfold CY at A;simp only[isAgg,Sem.run_bind,run_underlying hd,Result.andThen_ok];split at A<;>first|rfl|cases A
     simp[Instr.loadAt,Instr.sureAddr,loadVar,J,sizeOf,typeInfo,hi,S]
    cases h
   rename_i A;split at h
   .rename_i c ab K;cases h;obtain⟨l',C,e,fz,xs,F,hb,N,D,M,G⟩:=HL s K;rw[Z]at F;cases F;obtain⟨y,ys,rfl,Y,_⟩:=dg.1 D;refine⟨y,Y,?_⟩;have L:w.cell? ⟨l.bC,l.off+off,none⟩=some y:=by have:=G 0 y rfl;grind[cell_of_row]
    have J:(isAgg t).run P w=.ok false w:=by unfold CY at A;simp only[isAgg,Sem.run_bind,run_underlying hd,Result.andThen_ok];split at A<;>first|(cases A;done)|(cases d<;>first|rfl|simp_all)
    simp[Instr.loadAt,Instr.sureAddr,loadVar,J,L]
   cases h
  cases h
 .cases h
theorem Lq{x:Option aa}{d l:Nat}(h:mb x d=some l):(x=none/\l=d)\/∃k,x=some (.int k (Int.ofNat l)):=by
 unfold mb at h;split at h;.grind
 .split at h;.cases h;exact .inr ⟨_,rfl⟩
  cases h
 cases h
theorem afW(D:fi ρ n T a.tmps)(A:ye ng ρ){x:Option Operand}{y:Option aa}(h:nK ng T x=some y):(x=none/\y=none)\/∃o v,x=some o/\y=some v/\bj ρ v (a.eval o):=by unfold nK at h;grind[fP]
theorem Ue(w:World)(k:IntKind)(l y:Nat)(A:BoundsCode)(h:l<=y):(Instr.sliceBound (.int k (Int.ofNat l)) y A).run P w=.ok l w:=by grind[run_sliceBound]
theorem HC{isSl:Bool}(w:World)(len cap l h:Nat)(lo hi:Option Value)(y:(lo=none/\l=0)\/∃k,lo=some (.int k (Int.ofNat l)))(A:(hi=none/\h=len)\/∃k,hi=some (.int k (Int.ofNat h)))
 (G:l<=h) (F:h<=cap):(Instr.sliceBounds isSl len cap lo hi none).run P w=.ok (l,h,cap) w:=by
 unfold Instr.sliceBounds;rcases y with⟨rfl,rfl⟩|⟨k,rfl⟩
 .grind[Sem.run_bind,Sem.run_pure,Result.andThen_ok,Ue]
 .rcases A with⟨rfl,rfl⟩|⟨D,rfl⟩
  .grind[Sem.run_bind,Sem.run_pure,Result.andThen_ok,Ue]
  grind[Sem.run_bind,Sem.run_pure,Result.andThen_ok,Ue]
def avZ(s:List UInt8)(l h:Nat):(⟨⟨s⟩⟩:ByteArray).extract l h=⟨⟨(s.drop l).take (h-l)⟩⟩:=by apply ByteArray.ext;rw[ByteArray.data_extract];simp
theorem ata{w:World}(s:ez B ng ρ obj aC w.heap){a:aa}{lo hi:Option aa}{G J:Option Value}(ha:bj ρ a p)
 (ar:(lo=none/\G=none)\/∃x y,lo=some x/\G=some y/\bj ρ x y) (au:(hi=none/\J=none)\/∃x y,hi=some x/\J=some y/\bj ρ x y) (h:jY P obj t a lo hi=some v):
 ∃r,bj ρ v r/\(Instr.sliceAt t p G J none).run P w=.ok r w:=by
 have ac:∀l,mb lo 0=some l->(G=none/\l=0)\/∃k,G=some (.int k (Int.ofNat l)):=by
  intro l Z;rcases ar with⟨rfl,rfl⟩|⟨x,y,rfl,rfl,ah⟩
  .grind[Lq]
  rcases Lq Z with⟨hk,_⟩|⟨k,hk⟩
  .cases hk
  cases hk;cases ah;exact .inr ⟨k,rfl⟩
 have ae:∀d m,mb hi d=some m->(J=none/\m=d)\/∃k,J=some (.int k (Int.ofNat m)):=by
  intro d m hm;rcases au with⟨rfl,rfl⟩|⟨x,y,rfl,rfl,ah⟩
  .grind[Lq]
  rcases Lq hm with⟨hk,_⟩|⟨k,hk⟩
  .cases hk
  cases hk;cases ah;exact .inr ⟨k,rfl⟩
 unfold jY at h;split at h
 .rename_i str ht;split at h
  .rename_i l m Z hm;split at h;.rename_i N S;have N:=gT N;have S:=gT S;cases h;cases ha;have ai:(⟨⟨str⟩⟩:ByteArray).size=str.length:=rfl;refine⟨_,rfl,?_⟩;have:=HC (P:=P) (isSl:=false) w str.length str.length l m G J (ac l Z) (ae str.length m hm) N S;simp only[Instr.sliceAt,Sem.run_bind,run_underlying ht,Result.andThen_ok,Instr.slice,ai,this,Sem.run_pure,Option.isSome_none,rI,qv];rw[avZ]
   cases h
  cases h
 .rename_i e ht;split at h
  .rename_i N S;split at h;.rename_i i L;cases h;cases ha;refine⟨.slice none 0 0,rfl,?_⟩;have:=HC (P:=P) (isSl:=true) w 0 0 0 0 G J (ac 0 N) (ae 0 0 S) (be _) (be _);simp only[Instr.sliceAt,Sem.run_bind,run_underlying ht,Result.andThen_ok,Instr.slice,this,sizeOf,typeInfo,run_program,L,Sem.run_pure];rfl
   cases h
  cases h
 .rename_i e ht;split at h
  .rename_i N S;split at h
   .rename_i i L;cases h;obtain⟨ad,c,rfl⟩:=ha;have:=HC (P:=P) (isSl:=true) w 0 c 0 0 G J (ac 0 N) (ae 0 0 S) (be _) (iB _);refine⟨.slice (if c=0 then some ad else some (ad.add (0*i.size))) (0- 0) (c- 0),?_,?_⟩;.split<;>exact⟨_,_,rfl⟩
    simp only[Instr.sliceAt,Sem.run_bind,run_underlying ht,Result.andThen_ok,Instr.slice,this,sizeOf,typeInfo,run_program,L,Sem.run_pure,lA]
   cases h
  cases h
 .rename_i e x off af ht;split at h
  .rename_i N S;split at h
   .rename_i i L;cases h
    obtain⟨cap,A,D,hp,hq⟩:∃cap A,ρ x=some A/\p=.slice (some ⟨A.bC,A.off+off,none⟩) 0 cap/\∀q,q=.slice (some ⟨A.bC,A.off+off,none⟩) 0 cap->bj ρ (.slice x off 0 af) q:=by
     cases af;.obtain⟨l,Z,rfl⟩:=ha;exact⟨_,l,Z,rfl,λ q e=>⟨l,Z,e⟩⟩
     rename_i c;obtain⟨l,Z,rfl⟩:=ha;exact⟨_,l,Z,rfl,λ q e=>⟨l,Z,e⟩⟩
    subst hp;have:=HC (P:=P) (isSl:=true) w 0 cap 0 0 G J (ac 0 N) (ae 0 0 S) (be _) (iB _);refine⟨_,hq _ rfl,?_⟩;simp only[Instr.sliceAt,Sem.run_bind,run_underlying ht,Result.andThen_ok,Instr.slice,this,sizeOf,typeInfo,run_program,L,Sem.run_pure,lA,xf,uh,nY,ite_self,Vl,aip]
   cases h
  cases h
 .rename_i e x off len af az ht;split at h;.cases h
  rename_i i L;split at h
  .rename_i ex c l m F Z hm;split at h
   .rename_i N S;have N:=gT N;have S:=gT S;obtain⟨b,n',cap,rfl,aA,av⟩:=TQ s ha F;obtain⟨_,A,D,aw⟩:=ahn ha len
    have ap:n'=len:=by
     cases af;.obtain⟨_,_,he⟩:=ha;cases he;rfl
     obtain⟨_,_,he⟩:=ha;cases he;rfl
    subst ap;subst aw
    have K:(Instr.sliceAt t (.slice (some ⟨A.bC,A.off+off,none⟩) n' cap) G J none).run P w=
     .ok (.slice (if cap=l then some ⟨A.bC,A.off+off,none⟩else some ⟨A.bC,A.off+off+l*i.size,none⟩) (m-l) (cap-l)) w:=by
     have:=HC (P:=P) (isSl:=true) w n' cap l m G J (ac l Z) (ae n' m hm) N (by omega);simp only[Instr.sliceAt,Sem.run_bind,run_underlying ht,Result.andThen_ok,Instr.slice,this,sizeOf,typeInfo,run_program,L,Sem.run_pure,lA,xf]
    split at h
    ·
     rename_i c';cases h;obtain⟨l2,Y,he⟩:=ha;rw[D]at Y;cases Y;injection he with _ _ am;subst am;refine⟨_,?_,K⟩;cases hb:Nat.beq cap l;.have hb:=beq_false hb;rw[aj hb];exact⟨A,D,by rw[Bz]⟩
     have hb:=beq_true hb;rw[ao hb];exact⟨A,D,rfl⟩
    obtain⟨l2,Y,he⟩:=ha;injection he with _ _ ab;rw[D]at Y;cases Y
    have ai:A.sz=i.size/\∃r C fz,obj x=some r/\wM B ρ r A C fz/\off<=r.cells.length/\c=(r.cells.length-off)/i.size:=by
     simp only[hY]at F;split at F
     .rename_i r hr;split at F;.rename_i hz ho;simp only[lz,Ei]at F;obtain⟨l3,C3,e3,an,al,aB,ag⟩:=s.row x r hr;rw[D]at al;cases al;exact⟨by rw[ag.sz,beq_true hz],r,C3,an,hr,ag,gT ho,F.2.symm⟩
      cases F
     cases F
    obtain⟨hz,r,C3,an,hr,ag,ax,ay⟩:=ai;have ak:(A.cap-(off+l*i.size))/A.sz=cap-l:=by rw[ab,hz,<-Nat.sub_sub,BA,Nat.sub_mul_div]
    split at h;.rename_i M;have M:=gT M;cases h;refine⟨_,?_,K⟩;rw[aj (by omega)];exact⟨A,D,by rw[ak,Bz]⟩
    .rename_i M h0;have h0:=beq_true h0;subst h0;cases h;refine⟨_,?_,K⟩;have:(if cap=0 then some (⟨A.bC,A.off+off,none⟩:Addr)else some ⟨A.bC,A.off+off+0*i.size,none⟩)=some ⟨A.bC,A.off+off,none⟩:=by simp
     rw[this];exact⟨A,D,by simp[ab]⟩
    rename_i M h0;have M:=ae8 M;have h0:=beq_false h0;have aq:m=l:=by omega
    subst aq;split at h;.cases h;have am:=av rfl;refine⟨_,?_,K⟩;rw[ao (by omega)];exact⟨A,D,by grind⟩
    cases h;refine⟨_,?_,K⟩;rw[aip];split;.exact⟨_,_,rfl⟩
    exact⟨_,_,rfl⟩
   cases h
  cases h
 .cases h
def aAd{w:World}(s:ez B ng ρ obj aC w.heap)(y:ts[0]? =some t){a:aa}(F:bj ρ a p)(h:zm P obj t a=some v):
 ∃r,bj ρ v r/\(Builtin.cap_ ts ty #[p]).run P w=.ok r w:=by
 unfold zm at h;split at h
 .rename_i e A;split at h
  .rename_i i hi;split at h;.rename_i c D;cases h;obtain⟨b,m,cap,rfl,J,G⟩:=TQ s F D;have:=G rfl;subst this;exact⟨.int .i64 cap,rfl,by simp[Builtin.cap_,y,run_underlying A,goInt]⟩
   cases h
  cases h
 .cases h
theorem aia{w:World}(s:ez B ng ρ obj aC w.heap)(N:fi ρ n T a.tmps)(h:dP P ng T obj o.op=some v):
 ∃x,bj ρ v x/\(execOp a.eval o).run P w=.ok (.value x) w:=by
 have M:ye ng ρ:=s.iT;obtain⟨dst,op,F,pos,S,guard⟩:=o;cases op with
 |load t x=>
  change sj P obj t (aU ng T x)=some v at h;unfold sj at h;split at h;.rename_i p G;obtain⟨r,J,A⟩:=ahr s (fP N M G) h;exact⟨r,J,by simp only[execOp,Sem.run_bind,A];rfl⟩
  cases h
 |slice t x lo hi mx=>
  change rW P obj t (aU ng T x) (nK ng T lo) (nK ng T hi) mx=some v at h;unfold rW at h;split at h
  .rename_i p l m G hl Z;have L:(l=none/\lo.map a.eval=none)\/∃x y,l=some x/\lo.map a.eval=some y/\bj ρ x y:=by grind[afW]
   have K:(m=none/\hi.map a.eval=none)\/∃x y,m=some x/\hi.map a.eval=some y/\bj ρ x y:=by grind[afW]
   obtain⟨r,J,A⟩:=ata s (fP N M G) L K h;exact⟨r,J,by simp only[execOp,Sem.run_bind,Option.map_none,A];rfl⟩
  cases h
 |call c=>
  obtain⟨D,args,ts⟩:=c;change we P ng T obj ⟨D,args,ts⟩=some v at h;unfold we at h;split at h
  .rename_i t rest x L K h3;have L:D=.builtin .cap:=L;have K:ts.toList=t::rest:=K;have h3:args.toList=[x]:=h3;subst L;split at h
   .rename_i p G;obtain⟨r,J,A⟩:=aAd (ty:=F) (ts:=ts) s (by rw[<-Vk,K];rfl) (fP N M G) h;refine⟨r,J,?_⟩;have Y:args= #[x]:=by apply xq;simpa using h3
    subst Y;simp[execOp,resolve,invoke,Go.builtin,A]
   cases h
  cases h
 |_=>cases h
theorem XR(y:∀v r,g v=some r->g' v=some r){v m:Nat}{cs:List aa}(h:bq g v off m=some cs):bq g' v off m=some cs:=by grind[bq]
theorem abe(A:∀v r,g v=some r->g' v=some r){x:aa}{p:Bool×Nat}(h:hY g sz x=some p):hY g' sz x=some p:=by
 cases x with
 |slice v off len y=>
  cases y;.grind[hY]
  rename_i c;exact h
 |_=>exact h
theorem anF(y:∀v r,g v=some r->g' v=some r){x:aa}(h:de P g t x=some v):de P g' t x=some v:=by
 unfold de at h⊢;split at h
 .split at h
  .split at h;.grind[XR]
   grind[XR]
  cases h
 cases h
end
section
open Go
variable{T:Tr aa}{g g':Nat->Option Row}{v:aa}
variable{P:Program}{B ng n:Nat}{ρ:cr}
theorem azZ(y:∀v r,g v=some r->g' v=some r){x:aa}{lo hi:Option aa}(h:jY P g t x lo hi=some v):jY P g' t x lo hi=some v:=by
 unfold jY at h⊢;split at h;.exact h
 .exact h
 .exact h
 .exact h
 .split at h;.cases h
  grind[abe]
 cases h
theorem avC(y:∀v r,g v=some r->g' v=some r){x:aa}(h:zm P g t x=some v):zm P g' t x=some v:=by
 unfold zm at h⊢;split at h;.grind[abe]
 cases h
def anq(y:∀v r,g v=some r->g' v=some r):∀(A:Option aa) (L H:Option (Option aa)) (M:Option Operand),rW P g t A L H M=some v->rW P g' t A L H M=some v
 |some _,some _,some _,none,h=>azZ y h
 |none,_,_,_,h=>by cases h
 |some _,none,_,_,h=>by cases h
 |some _,some _,none,_,h=>by cases h
 |some _,some _,some _,some _,h=>by cases h
theorem adY(D:∀v r,g v=some r->g' v=some r){o:Op}(h:dP P ng T g o=some v):dP P ng T g' o=some v:=by
 cases o with
 |load t x=>
  change sj P g t (aU ng T x)=some v at h;change sj P g' t (aU ng T x)=some v;cases A:aU ng T x;.rw[A]at h;cases h
  rename_i p;rw[A]at h;exact anF D h
 |slice t x lo hi mx=>exact anq D _ _ _ _ h
 |call c=>
  obtain⟨y,args,ts⟩:=c;change we P ng T g ⟨y,args,ts⟩=some v at h;change we P ng T g' ⟨y,args,ts⟩=some v;grind[we,avC]
 |_=>cases h
theorem Mp(z:List aa):∀k,(kh z k).length=k*z.length
 |0=>by simp[kh]
 |k+1=>by simp[kh,Mp z k,jR,Vm]
theorem Xh(z:List aa):∀k i,i<k*z.length->(kh z k)[i]? =z[i%z.length]?
 |0,i,h=>by simp at h
 |k+1,i,h=>by
  simp only[kh];rw[jR,Nat.one_mul]at h;by_cases hi:i<z.length;.grind[Nat.mod_eq_of_lt]
  rw[xo (by omega),Xh z k _ (by omega),<-Nat.mod_eq_sub_mod (by omega)]
theorem Ua{z:List aa}{y:Array Value}(h:cJ ρ z y.toList)(k:Nat):cJ ρ (kh z k) ((Array.range (k*y.size)).map λ i=>y[i%y.size]!).toList:=by have A:=lY h;grind[G8,Mp,Xh,qN]
def wS(b:Nat):Option Nat->Nat->Value
 |none,_=>.pointer (some ⟨b,0,none⟩)
 |some k,c=>.slice (some ⟨b,0,none⟩) k c
theorem agE(hT:fi ρ n T a.tmps)(hg:ye ng ρ){cs:List aa}{m:Option Nat}(h:so P ng T o.op=some (cs,sz,m)):
 ∃(C:Array Value) (e:TypeId),cJ ρ cs C.toList/\∀w,(execOp a.eval o).run P w=.ok (.value (wS w.heap.size m (cs.length/sz))) (w.alloc (.cells C e)):=by
 obtain⟨dst,op,ai,pos,ah,guard⟩:=o;cases op with
 |alloc t=>
  change pW (ig P t)=_ at h;unfold pW at h;split at h;.rename_i z M;cases h;obtain⟨i,A,hi,D,Z⟩:=C8 M;refine⟨A.cells,t,yT (Z ρ),λ w=>?_⟩;simp[execOp,Instr.alloc,zeroValue,typeInfo,hi,D,newVar,newRow,wS]
  cases h
 |box t x=>
  change pW (aU ng T x)=_ at h;unfold pW at h;split at h;.rename_i z M;cases h;refine⟨(a.eval x).cells,t,yT (fP hT hg M),λ w=>?_⟩;simp[execOp,Instr.box,newVar,newRow,wS]
  cases h
 |buildSlice t len ps=>
  change nM P t len (my ng T ps.toList)=_ at h;unfold nM at h;split at h
  .rename_i e l ht hl;split at h
   .rename_i i z hi M;split at h
    .rename_i S h2 h3;have S:=beq_true S;have h2:=beq_false h2;have h3:=gT h3;split at h
     .rename_i al af;cases h;obtain⟨i',A,J,D,Z⟩:=C8 M;rw[hi]at J;cases J;have G:=yT (Z ρ);have F:=lY G;simp only[Vn]at F;have K:A.cells.size=i.size:=by rw[F];exact S
      obtain⟨p1,p2⟩:=Tv hT hg hl;obtain⟨C,hC,Y,ak⟩:=U5 (place':=λ j=>some (j*i.size,i.size)) (λ j p hp=>hp) (l':=ps.toList.map λ p=>(p.1,a.eval p.2)) (C:=(Array.range (len*A.cells.size)).map λ j=>A.cells[j%A.cells.size]!) (by rw[p1];simp) (by simpa[Function.comp_def]using p2) (Ua G len) af;refine⟨C,e,Y,λ w=>?_⟩;have aj:cs.length=len*i.size:=by grind[lY,Array.length_toList]
      have y:cs.length/i.size=len:=by grind[Nat.mul_div_cancel]
      have e2:(ps.map λ (x:Nat×Operand)=>match x with|(i,x)=>(i,a.eval x)).toList=ps.toList.map λ p=>(p.1,a.eval p.2):=by simp
      by_cases ac:len*i.size=0
      .have N:len=0:=by grind[Nat.mul_eq_zero]
       subst N;have L:Array.range 0= #[]:=rfl;have ag:Instr.fill (λ j=>some (j*i.size,i.size)) #[] (ps.toList.map λ p=>(p.1,a.eval p.2))=some C:=by simpa[L]using hC
       simp[execOp,Instr.buildSlice,run_underlying ht,sizeOf,typeInfo,hi,newRow,wS,y,ag,L]
      rw[K]at hC;have ab:¬(16777216<len*i.size):=by omega
      simp only[execOp,Instr.buildSlice,Sem.run_bind,run_underlying ht,Result.andThen_ok,sizeOf,typeInfo,run_program,hi,Sem.run_pure,e2,Sem.run_ite,ac,qv,zeroValue,D];simp[ab,K,hC,newRow,wS,y]
     cases h
    cases h
   cases h
  cases h
 |makeSlice t l c=>
  change wQ P t (aU ng T l) (aU ng T c)=_ at h;unfold wQ at h;split at h
  .rename_i e k m' ht hl hc;split at h
   .rename_i i z hi M;split at h
    .rename_i S h2 h3 h4 h5;have S:=beq_true S;have h2:=beq_false h2;have h3:=gT h3;have h4:m'*i.bytes<=1099511627776:=gT h4;have h5:m'<=1099511627776:=gT h5;cases h;obtain⟨i',A,J,D,Z⟩:=C8 M;rw[hi]at J;cases J;have G:=yT (Z ρ);have F:=lY G;simp only[Vn]at F;have K:A.cells.size=i.size:=by rw[F];exact S
     have el:a.eval l=.int .i64 (Int.ofNat k):=fP hT hg hl;have ec:a.eval c=.int .i64 (Int.ofNat m'):=fP hT hg hc;have y:(kh z.cells m').length/i.size=m':=by grind[Mp,Nat.mul_div_cancel]
     refine⟨(Array.range (m'*A.cells.size)).map λ j=>A.cells[j%A.cells.size]!,e,Ua G m',λ w=>?_⟩;have w1:=wrap_small k (by omega);have w2:=wrap_small m' h5;have w3:¬(281474976710656<(i.bytes:Int)*(m':Int)):=by rw[Int.mul_comm];exact Qk h4
     have w4:¬((m':Int)<0):=by omega
     have w5:¬((k:Int)<0):=by omega
     have w6:¬((m':Int)<(k:Int)):=by omega
     simp only[execOp,Instr.makeSlice,Sem.run_bind,run_underlying ht,Result.andThen_ok,el,ec,asInt,asIntOf,Sem.run_pure,typeInfo,run_program,hi,mS,w1,w2];by_cases ad:m'*i.size=0
     .have hm:m'=0:=by grind[Nat.mul_eq_zero]
      subst hm;have L:Array.range 0= #[]:=rfl;have ae:k=0:=by omega
      subst ae;simp[sizeOf,typeInfo,hi,newRow,wS,L,kh]
     simp[w3,w4,w5,w6,sizeOf,typeInfo,hi,ad,zeroValue,D,newRow,wS,y,K]
    cases h
   cases h
  cases h
 |_=>cases h
end
section
open Go
variable{H':ah}{T:Tr aa}{Z7:aW}{l:List aa}{v:aa}
variable{P:Program}{ng n:Nat}{ρ:cr}
def gG(H H':ah):Prop:=H.next<=H'.next/\(WF H->WF H')
theorem gG.refl(H:ah):gG H H:=⟨be _,id⟩
def gG.trans{a b c:ah}(h:gG a b)(k:gG b c):gG a c:=⟨fX h.1 k.1,λ w=>k.2 (h.2 w)⟩
theorem Yn(H:ah)(cs:List aa)(ex:Bool)(sz:Nat):gG H (alloc H cs ex sz):=by
 refine⟨jl _,λ w v r y=>?_⟩;have y:(H.objs.set H.next _).get v=some r:=y;rw[Tr.fT]at y;show v<H.next+1/\r.aC<H.next+1;split at y;.rename_i e;cases y;simp;omega
 have:=w v r y;omega
theorem MF{H:ah}{v:Nat}{new:List aa}(h:gM H v off new=some H'):gG H H':=by
 unfold gM at h;split at h;.cases h
 rename_i r A;split at h
 .rename_i mem G F h3 D;cases h;refine⟨be _,λ w u ru y=>?_⟩;have y:((jF H.objs v (r.start+off) (r.start+off+new.length) mem).set v _).get u=some ru:=y;rw[Tr.fT]at y;split at y;.rename_i e;cases y;subst e;exact w v r A
  exact w u ru (uB mem _ u ru y).1
 cases h
theorem anX{H:ah}{bytes m:Nat}{s:aa}{new:List aa}(h:gm H sz bytes s m new=some (v,H')):gG H H':=by
 unfold gm at h;split at h
 .split at h;.grind[gG.refl,MF]
  split at h
  .split at h;.cases h;exact Yn _ _ _ _
   split at h
   .split at h
    .rename_i r A;split at h
     .rename_i mem _ _ _;cases h;refine⟨jl _,λ w u ru y=>?_⟩;have y:((mG H.objs _ mem).set H.next _).get u=some ru:=y;rw[Tr.fT]at y;show u<H.next+1/\ru.aC<H.next+1;split at y;.rename_i e;cases y;have:=(w _ r A).2;simp;omega
      have:=w u ru (tR mem _ u ru y).1;omega
     cases h
    cases h
   cases h
  cases h
 cases h
def ak8{H:ah}{ts:List TypeId}(h:jM P H ts l=some (v,H')):gG H H':=by
 unfold jM at h
 repeat' (split at h)
 all_goals first|(cases h;done)|exact anX h
def gS(Z7:aW):Prop:=∀f args H v H',Z7 f args H=some (v,H')->gG H H'
theorem R7{f:FuncId}{args:List aa}{H:ah}{r:aa×ah}(h:ir P Z7 f args H=some r):
 ∃fn c,P.funcs[f]? =some fn/\fn.body=some c/\(fn.name== "runtime.NumGoroutine")=false/\Z7 f args H=some r:=by
 grind[ir]
theorem ar5(D:gS Z7){H:ah}{o:Op}(h:r9 P ng Z7 T H o=some (v,H')):gG H H':=by
 cases o with
 |store t x y=>
  change sF P H t (aU ng T x) (aU ng T y)=_ at h;unfold sF at h;split at h
  .split at h;.rename_i L A;cases h;unfold dJ at A;grind[MF]
   cases h
  cases h
 |call c=>
  change qQ P ng Z7 T H c=_ at h;unfold qQ at h;split at h
  .unfold tw at h;split at h;.obtain⟨fn,K,J,G,h3,F⟩:=R7 h;exact D _ _ _ _ _ F
   cases h
  .unfold yL at h;split at h;.exact ak8 h
   cases h
  cases h
 |_=>cases h
theorem Tm(y:gS Z7){H:ah}{o:Op}(h:bK P ng Z7 T H o=some (v,H')):gG H H':=by
 unfold bK at h;split at h;.unfold fZ at h;grind[gG.refl]
 .unfold fZ at h;grind[gG.refl]
 .unfold mX at h;grind[Yn]
 exact ar5 y h
def jN(P:Program)(ng:Nat)(Z7:aW):Prop:=∀f args H v H',Z7 f args H=some (v,H')->∀B ρ w xs,jj B ng ρ H w->WF H->ju ρ H.next H'.next->cJ ρ args xs->Calls P f ⟨xs⟩ w (λ e w'=>∃x ρ',e=.returned x/\bj ρ' v x/\cp B ng H.objs.get H.next H'.next ρ w H'.objs.get H'.aG.get ρ' w')
variable{B:Nat}
def arN{H:ah}{w:World}(s:jj B ng ρ H w){p:aa}{S J:Value}(hp:bj ρ p S)(Z:bj ρ v J)(h:dJ P H t p v=some H'):
 ∃w',(Instr.storeAt t S J).run P w=.ok () w'/\cp B ng H.objs.get H.next H'.next ρ w H'.objs.get H'.aG.get ρ w':=by
 unfold dJ at h;split at h
 .rename_i x off i hi;split at h
  .rename_i A;have A:=beq_true A;obtain⟨l0,N,rfl⟩:=hp;have y:=yT Z;have K:=lY y;obtain⟨l,C,e,Y,hb,F,D,_,G⟩:=SC s h y;rw[N]at Y;cases Y;refine⟨_,?_,G⟩;have L:=Sf (P:=P) hb F D;have M:J.cells.size=i.size:=by simp at K;omega
   simp[Instr.storeAt,Instr.sureAddr,storeVar,sizeOf,typeInfo,hi,M,L]
  cases h
 .cases h
theorem akG{H:ah}{w:World}(s:jj B ng ρ H w)(wf:WF H){ls:List Value}(hl:cJ ρ l ls)(h:jM P H ts.toList l=some (v,H'))(A:ju ρ H.next H'.next)(ty:TypeId):
 ∃x ρ' w',(Builtin.append_ ts ty ⟨ls⟩).run P w=.ok x w'/\bj ρ' v x/\cp B ng H.objs.get H.next H'.next ρ w H'.objs.get H'.aG.get ρ' w':=by
 unfold jM at h;split at h
 .rename_i t u sa xa aj;obtain⟨sv,ys,rfl,M,ac⟩:=dg.1 hl;obtain⟨xv,zs,rfl,F,Y⟩:=dg.1 ac;obtain rfl:=nH.1 Y;have L:ts= #[t,u]:=by grind
  subst L;split at h
  .rename_i e du ht hu;split at h
   .rename_i i hi;split at h
    .rename_i z G hz;have G:=beq_false G;obtain⟨i',zv,S,J,Z⟩:=C8 hz;rw[hi]at S;cases S;have K:=yT (Z ρ);have ab:=lY K;simp only[Vn]at ab;split at h
     ·
      rename_i k k' m y;have y:=beq_true y;split at h;.rename_i h1 h2;have h1:m*i.bytes<=1099511627776:=gT h1;have ai:m<=1099511627776:=gT (Vh.1 h2).1;have h3:1<=m:=gT (Vh.1 h2).2;cases F;have D:cJ ρ (kh z.cells m) (Builtin.zeroCells zv.cells m).toList:=Ua K m;exact V6 s wf ht hi J (by omega) (by omega) M D (by rw[Mp,y]) (.inr ⟨k,k',hu,rfl,ai,h1,Nat.mul_ne_zero (by omega) G,rfl⟩) h A
      cases h
     .rename_i d y;have y:=beq_true y;split at h
      .rename_i m hm;split at h;.rename_i new N;obtain⟨cN,af,ae,ad⟩:=ZP (P:=P) s F N;obtain⟨b,c,he,ag⟩:=Zc F hm;exact V6 s wf ht hi J (by omega) (by omega) M af ae (.inl ⟨d,hu,ag,ad⟩) h A
       cases h
      cases h
     cases h
    cases h
   cases h
  cases h
 .cases h
theorem Xa(hc:jN P ng Z7){H:ah}{w:World}(s:jj B ng ρ H w)(wf:WF H)(hT:fi ρ n T a.tmps)(h:r9 P ng Z7 T H o.op=some (v,H'))
 (G:ju ρ H.next H'.next) {K:Act->World->Prop} {Q:Exit->Act->World->Prop}
 (hK:∀x ρ' w',bj ρ' v x->cp B ng H.objs.get H.next H'.next ρ w H'.objs.get H'.aG.get ρ' w'->K (a.put o.dst x) w'):o.wp P a w K Q:=by
 have Y:ye ng ρ:=s.iT;obtain⟨dst,op,L,pos,S,guard⟩:=o;cases op with
 |store t x y=>
  change sF P H t (aU ng T x) (aU ng T y)=_ at h;unfold sF at h;split at h
  .rename_i p q hx hy;split at h;.rename_i H1 hs;cases h;obtain⟨w',A,D⟩:=arN s (fP hT Y hx) (fP hT Y hy) hs;have:=hK undef ρ w' (I9 ρ) D;simp only[Oper.wp,execOp,Sem.run_bind,A,Result.andThen_ok,Sem.run_pure,Oper.upon];exact this
   cases h
  cases h
 |call c=>
  obtain⟨F,args,ts⟩:=c;change qQ P ng Z7 T H ⟨F,args,ts⟩=_ at h;unfold qQ at h;cases F with
  |value f=>
   change tw P Z7 H (aU ng T f) (jo ng T args.toList)=_ at h;unfold tw at h;split at h
   .rename_i g first cap l hf hl
    obtain⟨fn,cd,h1,h2,h3,h4⟩:=R7 h;obtain⟨xs,ys,he,ac,ab⟩:=fP hT Y hf;have N:=Gt hT Y hl;have Z:cJ ρ (first++l++cap) (xs++args.toList.map a.eval++ys):=HU (HU ac N) ab;have M:=hc g _ H v H' h4 B ρ w _ s wf G Z;have J:(⟨xs⟩:Array Value)++args.map a.eval++⟨ys⟩=⟨xs++args.toList.map a.eval++ys⟩:=by apply xq;simp
    have ad:fn.name≠ "runtime.NumGoroutine":=by simpa using h3
    have A:(execOp a.eval ⟨dst,.call ⟨.value f,args,ts⟩,L,pos,S,guard⟩).run P w=.ok (.enter g ⟨xs++args.toList.map a.eval++ys⟩) w:=by simp only[execOp,resolve,he,Deferred.ofValue,Sem.run_bind,Sem.run_pure,Result.andThen_ok,invoke,callFunc,run_program,h1,J];simp[ad,h2]
    simp only[Oper.wp,A,Oper.upon];refine M.mono λ e w' ⟨x,ρ',ae,hr,D⟩=>?_
    grind
   cases h
  |builtin b=>
   cases b with
   |append=>
    change yL P H ts.toList (jo ng T args.toList)=_ at h;unfold yL at h;split at h
    .rename_i l hl;obtain⟨x,ρ',w',A,hr,D⟩:=akG s wf (Gt hT Y hl) h G L;have J:args.map a.eval=⟨args.toList.map a.eval⟩:=by apply xq;simp
     have:=hK x ρ' w' hr D;simp only[Oper.wp,execOp,resolve,Sem.run_bind,Sem.run_pure,Result.andThen_ok,invoke,Go.builtin,J,A,Oper.upon];exact this
    cases h
   |_=>cases h
  |invoke r m=>cases h
 |_=>cases h
end
section
open Go
variable{T:Tr aa}{Z7:aW}{Z8:Array Oper}
variable{P:Program}{ng n B:Nat}{ρ:cr}
theorem alw(hc:jN P ng Z7){H H':ah}{w:World}(s:jj B ng ρ H w)(wf:WF H)(N:fi ρ n T a.tmps){v:aa}(h:bK P ng Z7 T H o.op=some (v,H'))
 (A:ju ρ H.next H'.next) {K:Act->World->Prop} {Q:Exit->Act->World->Prop}
 (S:∀x ρ' w',bj ρ' v x->cp B ng H.objs.get H.next H'.next ρ w H'.objs.get H'.aG.get ρ' w'->K (a.put o.dst x) w'):o.wp P a w K Q:=by
 unfold bK at h;split at h
 .unfold fZ at h;split at h;.rename_i Z F;cases h;obtain⟨x,L,y⟩:=Wm N s.iT F;have:=S x ρ w L (cp.refl s _ _);simp only[Oper.wp,y w,Oper.upon];exact this
  cases h
 .unfold fZ at h;split at h;.rename_i Z F;cases h;obtain⟨x,L,y⟩:=aia s N F;have:=S x ρ w L (cp.refl s _ _);simp only[Oper.wp,y,Oper.upon];exact this
  cases h
 .unfold mX at h;split at h
  .rename_i cs sz m F;cases h;obtain⟨C,e,D,y⟩:=agE N s.iT F;have M:ρ H.next=none:=A H.next (be _) (iW _);have Y:C.size=cs.length:=by have:=lY D;simpa using this
   have G:=SG (w':=w.alloc (.cells C e)) (e:=e) s M (λ v r J=>⟨Vi (wf v r J).1,Vi (wf v r J).2⟩) cs true sz cs.length Y (be _) (λ _=>rfl) (λ i c hc=>by grind[qN]) rfl rfl rfl rfl
   have J:bj (fU ρ H.next (some ⟨w.heap.size,0,cs.length,sz⟩)) (tf H.next m) (wS w.heap.size m (cs.length/sz)):=by
    cases m;.exact⟨_,hJ _ _ _,rfl⟩
    rename_i k;exact⟨_,hJ _ _ _,rfl⟩
   have:=S _ _ _ J (by show cp B ng H.objs.get H.next (H.next+1) ρ w (H.objs.set H.next _).get (H.aG.set H.next _).get _ _;rw[wc,wc];exact G)
   simp only[Oper.wp,y w,Oper.upon];exact this
  cases h
 grind[Xa]
def ahS(J:fi ρ n T a.tmps)(o:Oper):bJ Z8.toList T o=Region.wanted o (yielded Z8 a.tmps):=by
 unfold bJ Region.wanted;cases M:o.guard;.rfl
 rename_i K;obtain⟨j,want⟩:=K;simp only[];unfold yielded;rw[Vk];cases L:Z8[j]?;.rfl
 rename_i G;simp only[xu];cases N:G.dst;.rfl
 rename_i d;simp only[xu];have y:=J.get d;rw[kW]at y;cases F:a.tmps[d]?
 .rw[F]at y;cases A:aw T d with
  |bool b=>rw[A]at y;have y:undef=.bool b:=y;cases y
  |_=>rfl
 rename_i x;rw[F]at y;simp only[Eh]at y;cases A:aw T d with
 |bool b=>rw[A]at y;have y:x=.bool b:=y;subst y;simp
 |int _ _=>rw[A]at y;cases y;simp
 |str _=>rw[A]at y;cases y;simp
 |nilPtr=>rw[A]at y;cases y;simp
 |ptr _ _=>rw[A]at y;obtain⟨l,_,rfl⟩:=y;simp
 |ai=>rw[A]at y;cases y;simp
 |slice _ _ _ D=>rw[A]at y;cases D<;>(obtain⟨l,_,rfl⟩:=y;simp)
 |dq=>rw[A]at y;obtain⟨l,_,rfl⟩:=y;simp
 |nilFunc=>rw[A]at y;cases y;simp
 |iface=>rw[A]at y;rcases y with rfl|⟨_,_,rfl⟩<;>simp
 |func _ _ _=>rw[A]at y;obtain⟨_,_,rfl,_,_⟩:=y;simp
 |agg _=>rw[A]at y;obtain⟨_,rfl,_⟩:=y;simp
 |tuple _=>rw[A]at y;obtain⟨_,rfl,_⟩:=y;simp
def put_defers(a:Act)(d:Option Tmp)(v:Value):(a.put d v).defers=a.defers:=by cases d<;>rfl
def wO(Z7:aW)(Z8:List Oper)(o:Oper)(l:List Oper)(T:Tr aa)(H:ah):
 eQ P ng Z7 n Z8 (o::l) T H=if bJ Z8 T o then(match bK P ng Z7 T H o.op with|some r=>eQ P ng Z7 n Z8 l (cG n T o.dst r.1) r.2|none=>none)else eQ P ng Z7 n Z8 l (cG n T o.dst (.tuple [])) H:=by
 show Bool.rec (motive:=λ _=>Option (Tr aa×ah)) (eQ P ng Z7 n Z8 l (cG n T o.dst (.tuple [])) H) (Option.rec (motive:=λ _=>Option (Tr aa×ah)) none (λ r=>eQ P ng Z7 n Z8 l (cG n T o.dst r.1) r.2) (bK P ng Z7 T H o.op)) (bJ Z8 T o)=_;cases bJ Z8 T o;.rfl
 .cases bK P ng Z7 T H o.op<;>rfl
def GX(y:gS Z7){Z8:List Oper}:∀{l:List Oper} {T T':Tr aa} {H H':ah},eQ P ng Z7 n Z8 l T H=some (T',H')->gG H H'
 |[],T,T',H,H',h=>by cases h;exact gG.refl _
 |o::l,T,T',H,H',h=>by
  rw[wO]at h;split at h
  .split at h;.rename_i r A;obtain⟨v,D⟩:=r;exact(Tm y A).trans (GX y h)
   cases h
  exact GX y h
def ju.sub{y hi':Nat}(h:ju ρ lo hi)(D:lo<=y)(A:hi'<=hi):ju ρ y hi':=λ v a b=>h v (by omega) (by omega)
def ju.CN{A y:Nat->Option Row}{D:Nat}{ρ':cr}{w:World}(h:ju ρ lo hi)(c:cp B ng A lo D ρ w y fam' ρ' w')(F:lo<=D):ju ρ' D hi:=λ v a b=>by rw[c.ext v (λ k=>by omega)];exact h v (by omega) b
theorem R2(hc:jN P ng Z7)(A:gS Z7){Q:Exit->Act->World->Prop}:∀(l:List Oper) (k:Nat) (T T':Tr aa) (H H':ah) (ρ:cr) (a:Act) (w:World),Z8.toList.drop k=l->
 eQ P ng Z7 n Z8.toList l T H=some (T',H')->jj B ng ρ H w->WF H->ju ρ H.next H'.next->fi ρ n T a.tmps->a.defers=[]->
 (∀M w' ρ',fi ρ' n T' M.tmps->M.defers=[]->cp B ng H.objs.get H.next H'.next ρ w H'.objs.get H'.aG.get ρ' w'->Q .normal M w')->wpOps P Z8 Q (List.range' k l.length) a w
 |[],k,T,T',H,H',ρ,a,w,_,h,s,wf,K,F,N,S=>by cases h;exact S a w ρ F N (cp.refl s _ _)
 |o::l,k,T,T',H,H',ρ,a,w,hl,h,s,wf,K,F,N,S=>by
  have ho:Z8[k]? =some o:=by
   have:(Z8.toList.drop k)[0]? =some o:=by rw[hl];rfl
   grind
  have J:Z8.toList.drop (k+1)=l:=by rw[<-pG,hl];rfl
  rw[wO]at h;rw[cD,List.range'_succ,wpOps_cons];unfold wpOp;simp only[ho];rw[<-ahS F o];split at h
  .rename_i Z;rw[ao Z];left;split at h;.rename_i r hr;obtain⟨v,H1⟩:=r;have g1:=Tm A hr;have g2:=GX A h;refine alw hc s wf F hr (K.sub (be _) g2.1) (λ x ρ' w' hx y=>?_);have L:=y.Kn (K.sub (be _) g2.1);exact R2 hc A l (k+1) _ T' H1 H' ρ' (a.put o.dst x) w' J h y.bN (g1.2 wf) (K.CN y g1.1) ((F.mono L).put o.dst hx) (by rw[put_defers];exact N) (λ M Y G ac ab D=>S M Y G ac ab (y.trans D g1.1 g2.1))
   cases h
  rename_i Z;rw[aj Z];exact R2 hc A l (k+1) _ T' H H' ρ (a.put o.dst undef) w J h s wf K (F.put o.dst (I9 ρ)) (by rw[put_defers];exact N) S
end
end
end Go.Abs
