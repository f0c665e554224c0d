/- The value machine. -/
import Derived.Test.YtkencjbbibdamaaGreatDoorB
set_option linter.all false
namespace Go.Abs
noncomputable section
open Go
variable{H2:ah}{a b:aa}{Z9:List aa}{d d' i k k' n off sz u:Nat}{dst:Option Tmp}{ex tk:Bool}{r:Row}{s t:TypeId}{src:List Tmp}{tch:Nat->Nat->Prop}{α:Type}
inductive ae where
 |sc (a:aa)
 |ptr (d k off:Nat)
 |rp (cs:List ae) (off:Nat)
 |sl (es:List (List ae)) (own:Option Nat)
 |ms (d k len sz:Nat)
 |fn (f:FuncId) (cap:List ae)
 |agg (cs:List ae)
 |aL (vs:List ae)
 |un
abbrev bI:=List (Nat×List ae)
structure aq where
 w:Bool
 cur:bI
 up:List bI
abbrev VT:=List (Nat×ae)
abbrev aS:=List (List ae)
abbrev aM:=Nat->Option (List ae)
abbrev eH:=FuncId->List ae->Option ae
abbrev aH(c:bI)(u:List bI):aq:=⟨false,c,u⟩
abbrev cI:=FuncId->List ae->List bI->Option (ae×List bI×Bool)
def ae.undef:ae:=.aL []
def ae.cells:ae->List ae
 |.agg cs=>cs
 |v=>[v]
def ae.fw:ae->Bool
 |.aL _=>true
 |.un=>true
 |_=>false
def ae.cell:ae->Bool
 |.agg _=>false
 |.aL _=>false
 |.un=>false
 |_=>true
def ae.data:ae->Bool
 |.sc _=>true
 |.sl _ _=>true
 |_=>false
def di:ae->ae
 |.sl es _=>.sl es none
 |v=>v
def bD:ae->ae
 |.sl es _=>.sl es none
 |.agg cs=>.agg (cs.map di)
 |v=>v
def lX:aa->Bool
 |.bool _=>true
 |.int _ _=>true
 |.str _=>true
 |.nilPtr=>true
 |.nilFunc=>true
 |.iface=>true
 |.slice _ _ _ _=>true
 |_=>false
def lk{α:Type}:List (Nat×α)->Nat->Option α
 |[],_=>none
 |(i,v)::l,j=>if i=j then some v else lk l j
def jK(T:VT)(i:Nat):ae:=match lk T i with|some v=>v|none=>.aL []
def b7:List bI->Nat->aM
 |[],_,_=>none
 |F::S,d,k=>if d=S.length then lk F k else b7 S d k
def bE(st:aq)(d k:Nat):Option (List ae):=if d=st.up.length then lk st.cur k else b7 st.up d k
def mN(F:bI)(k:Nat)(cs:List ae):bI:=F.map λ p=>if p.1=k then(k,cs)else p
def jv:List bI->Nat->Nat->List ae->List bI
 |[],_,_,_=>[]
 |F::S,d,k,cs=>if d=S.length then mN F k cs::S else F::jv S d k cs
def m9(st:aq)(d k:Nat)(cs:List ae):aq:=if d=st.up.length then{st with cur:=mN st.cur k cs}else{st with w:=true,up:=jv st.up d k cs}
def oU(st:aq)(d k:Nat)(cs:List ae):aq:=if d=st.up.length then{st with cur:=mN st.cur k cs}else{st with up:=jv st.up d k cs}
mutual
def lr(d k:Nat):ae->Bool
 |.ptr d' k' _=> !(k'==k&&d'==d)
 |.ms d' k' _ _=> !(k'==k&&d'==d)
 |.fn _ cs=>iJ d k cs
 |.agg cs=>iJ d k cs
 |.aL cs=>iJ d k cs
 |_=>true
def iJ(d k:Nat):List ae->Bool
 |[]=>true
 |v::vs=>lr d k v&&iJ d k vs
end
def sM(d k:Nat):VT->Bool
 |[]=>true
 |(_,v)::T=>lr d k v&&sM d k T
def tC(d k:Nat):bI->Bool
 |[]=>true
 |(_,cs)::F=>iJ d k cs&&tC d k F
def lJ{α:Type}(k:Nat)(F:List (Nat×α)):List (Nat×α):=F.filter λ p=> !(p.1==k)
def gY(T:VT)(st:aq)(k:Nat)(cs:List ae):Option aq:=
 match sM st.up.length k T&&tC st.up.length k (lJ k st.cur)&&iJ st.up.length k cs&&cs.all ae.cell with
 |true=>some {st with cur:=(k,cs)::lJ k st.cur}
 |false=>none
def EP:aa->Option ae
 |.ai=>some (.sl [] (some 0))
 |.func f [] []=>some (.fn f [])
 |a=>match lX a with|true=>some (.sc a)|false=>none
def LZ:List aa->Option (List ae)
 |[]=>some []
 |a::Z9=>match EP a,LZ Z9 with
  |some v,some l=>some (v::l)
  |_,_=>none
def kx:aa->Option ae
 |.agg cs=>match LZ cs with|some l=>some (.agg l)|none=>none
 |a=>EP a
def zc(P:Program):Nat->TypeId->Option (List ae)
 |0,_=>none
 |n+1,t=>match P.underlying t with
  |some (.slice e)=>match P.info? e with|some i=>some [.sl [] (some i.size)]|none=>none
  |some (.struct fs)=>fs.toList.foldr (λ f r=>match zc P n f.type,r with|some a,some l=>some (a++l)|_,_=>none) (some [])
  |some (.array m e)=>match zc P n e with|some a=>some (List.replicate m a).flatten|none=>none
  |_=>match ig P t with|some a=>(match EP a with|some v=>some [v]|none=>none)|none=>none
def qP:List aa->List ae->Bool
 |[],[]=>true
 |.ai::Z9,.sl [] (some _)::vs=>qP Z9 vs
 |.bool a::Z9,.sc (.bool b)::vs=>a==b&&qP Z9 vs
 |.int j a::Z9,.sc (.int k b)::vs=>decide (j=k)&&decide (a=b)&&qP Z9 vs
 |.str a::Z9,.sc (.str b)::vs=>decide (a=b)&&qP Z9 vs
 |.nilPtr::Z9,.sc .nilPtr::vs=>qP Z9 vs
 |.nilFunc::Z9,.sc .nilFunc::vs=>qP Z9 vs
 |_,_=>false
def C9:aa->Bool
 |.agg _=>true
 |_=>false
def qZ(P:Program)(t:TypeId):Option ae:=
 match ig P t,zc P 6 t with
 |some a,some cs=>match qP a.cells cs,C9 a,cs with
  |true,true,_=>some (.agg cs)
  |true,false,[v]=>some v
  |_,_,_=>none
 |_,_=>none
def nC(P:Program)(t:TypeId):Option (Nat×Nat):=
 match P.underlying t with
 |some (.slice e)=>match P.info? e with
  |some i=>match i.size==0 with|false=>some (i.size,i.bytes)|true=>none
  |none=>none
 |_=>none
def Ae(P:Program)(t:TypeId):Option (Nat×Nat):=
 match P.underlying t with
 |some (.array n e)=>match P.info? e with|some i=>some (n,i.size)|none=>none
 |_=>none
def Dv(P:Program)(t:TypeId):Option (Bool×Nat):=
 match P.underlying t,P.info? t with
 |some d,some i=>some (CY d,i.size)
 |_,_=>none
def IX(P:Program)(t:TypeId):Option Nat:=match P.info? t with|some i=>some i.size|none=>none
def Ea(P:Program)(s:TypeId)(f:Nat):Option Nat:=
 match P.underlying s with
 |some (.struct fs)=>
  match fs.toList[f]?with
  |some h=>match P.info? h.type with
   |some i=>match i.size==0 with|false=>some h.offset|true=>none
   |none=>none
  |none=>none
 |_=>none
def wK(P:Program)(t:TypeId):Option (List ae):=
 match P.underlying t with
 |some (.slice e)=>match qZ P e,P.info? e with
  |some z,some i=>match z.cells.length==i.size with|true=>some z.cells|false=>none
  |_,_=>none
 |_=>none
def Kv(P:Program):List Field->Option (List (Nat×Nat))
 |[]=>some []
 |f::fs=>match P.info? f.type,Kv P fs with
  |some i,some l=>some ((f.offset,i.size)::l)
  |_,_=>none
def OV(P:Program)(t:TypeId):Option (List ae×List (Nat×Nat)):=
 match qZ P t,P.underlying t with
 |some (.agg z),some (.struct fs)=>match Kv P fs.toList with|some l=>some (z,l)|none=>none
 |some (.agg z),some (.array _ e)=>match P.info? e with|some _=>some (z,[])|none=>none
 |_,_=>none
def cy(P:Program)(f:FuncId):Bool:=
 match P.funcs[f]?with
 |some fn=>match fn.body,fn.name== "runtime.NumGoroutine" with|some _,false=>true|_,_=>false
 |none=>false
def tD(P:Program)(t:TypeId):Bool:=match P.underlying t with|some (.slice _)=>true|_=>false
def cm(cs:List ae)(off:Nat)(new:List ae):List ae:=cs.take off++new++cs.drop (off+new.length)
def qO(cs:List ae)(off n:Nat):Option (List ae):=if off+n<=cs.length then some ((cs.drop off).take n)else none
def mO(sz:Nat):Nat->List ae->aS
 |0,_=>[]
 |n+1,cs=>cs.take sz::mO sz n (cs.drop sz)
def eC(gl:aM)(T:VT):Operand->Option ae
 |.tmp t=>some (jK T t)
 |.const v=>match ofValue v with|some a=>kx a|none=>none
 |.global g=>match gl g with|some cs=>some (.rp cs 0)|none=>none
 |.func f=>some (.fn f [])
def As(gl:aM)(T:VT):List Operand->Option (List ae)
 |[]=>some []
 |x::l=>match eC gl T x,As gl T l with
  |some a,some r=>some (a::r)
  |_,_=>none
def AV(gl:aM)(T:VT):List (Nat×Operand)->Option (List (Nat×ae))
 |[]=>some []
 |(i,x)::l=>match eC gl T x,AV gl T l with
  |some a,some r=>some ((i,a)::r)
  |_,_=>none
def D7(gl:aM)(T:VT):Option Operand->Option (Option ae)
 |none=>some none
 |some x=>match eC gl T x with|some a=>some (some a)|none=>none
def jB:Operand->List Tmp
 |.tmp t=>[t]
 |_=>[]
def nT:List (Nat×Operand)->List Tmp
 |[]=>[]
 |(_,x)::l=>jB x++nT l
def BK:List Tmp->Bool
 |[]=>true
 |t::l=> !(l.elem t)&&BK l
def kY(h:List (Nat×Nat))(cells:List ae):List (Nat×ae)->Option (List ae)
 |[]=>some cells
 |(i,v)::rest=>
  match h[i]?with
  |none=>none
  |some (off,size)=>
   match v.fw,v.cells.length==size,decide (off+size<=cells.length)with
   |false,true,true=>kY h (cm cells off v.cells) rest
   |_,_,_=>none
def mM(sz:Nat)(es:aS):List (Nat×ae)->Option aS
 |[]=>some es
 |(i,v)::rest=>
  match v.cells.all ae.data,v.cells.length==sz,decide (i<es.length)with
  |true,true,true=>mM sz (es.set i (v.cells.map di)) rest
  |_,_,_=>none
def AJ:ae->Option Nat
 |.sc (.int _ (.ofNat n))=>some n
 |_=>none
def sB:List ae->Option (List aa)
 |[]=>some []
 |.sc a::vs=>match sB vs with|some l=>some (a::l)|none=>none
 |_=>none
def rj:ae->Option aa
 |.sc a=>some a
 |.agg cs=>match sB cs with|some l=>some (.agg l)|none=>none
 |_=>none
def dn(P:Program)(h:BinOp)(t:TypeId)(x y:ae):Option ae:=
 match rj x,rj y with
 |some a,some b=>match cV P h t a b with|some r=>kx r|none=>none
 |_,_=>none
def vg(h:UnOp)(x:ae):Option ae:=
 match rj x with
 |some a=>match Ee h a with|some r=>kx r|none=>none
 |none=>none
def Ly(P:Program)(s d:TypeId)(x:ae):Option ae:=
 match rj x with
 |some a=>match rh P s d (some a)with|some r=>kx r|none=>none
 |none=>none
def yY:ae->ae->ae->Option ae
 |.sc (.bool true),x,_=>some (bD x)
 |.sc (.bool false),_,y=>some (bD y)
 |_,_,_=>none
def wR:ae->Option ae
 |.ptr d k off=>some (.ptr d k off)
 |.rp cs off=>some (.rp cs off)
 |.fn f cs=>some (.fn f cs)
 |_=>none
def BU(P:Program)(t:TypeId)(l:List (Nat×ae)):Option ae:=
 match OV P t with
 |some (z,h)=>match kY h z l with|some cs=>some (.agg cs)|none=>none
 |none=>none
def Ft(P:Program)(s:TypeId)(f:Nat):ae->Option ae
 |.ptr d k off=>match Ea P s f with|some o=>some (.ptr d k (off+o))|none=>none
 |.rp cs off=>match Ea P s f with|some o=>some (.rp cs (off+o))|none=>none
 |_=>none
def HS(P:Program)(t:TypeId)(x ix:ae):Option ae:=
 match AJ ix with
 |none=>none
 |some i=>
  match x with
  |.sl es _=>match nC P t,es[i]?with
   |some (sz,_),some e=>if e.length=sz then some (.rp e 0)else none
   |_,_=>none
  |.ms d k len sz=>match nC P t with
   |some (h,_)=>if i<len/\h=sz then some (.ptr d k (i*sz))else none
   |none=>none
  |.ptr d k off=>match Ae P t with
   |some (n,sz)=>if i<n then some (.ptr d k (off+i*sz))else none
   |none=>none
  |.rp cs off=>match Ae P t with
   |some (n,sz)=>if i<n then some (.rp cs (off+i*sz))else none
   |none=>none
  |_=>none
def CU(P:Program)(t:TypeId)(x ix:ae):Option ae:=
 match rj x,rj ix with
 |some a,some i=>match yp P t a i with|some r=>kx r|none=>none
 |_,_=>none
def sd(i:Nat):ae->Option ae
 |.aL vs=>match vs[i]?with|some v=>some (bD v)|none=>none
 |_=>none
def Lo(P:Program)(t:TypeId):ae->Option ae
 |.sl es _=>match tD P t with|true=>some (.sc (.int .i64 es.length))|false=>none
 |.ms _ _ n _=>match tD P t with|true=>some (.sc (.int .i64 n))|false=>none
 |.sc a=>match dD P t a with|some r=>kx r|none=>none
 |_=>none
def DM:ae->ae->Option ae
 |.sc (.int k a),.sc (.int _ b)=>some (.sc (.int k (if b<a then b else a)))
 |_,_=>none
def BJ:ae->ae->Option ae
 |.sc (.int k a),.sc (.int _ b)=>some (.sc (.int k (if a<b then b else a)))
 |_,_=>none
def yg(P:Program)(ty:TypeId):ae->ae
 |.sl [] (some 0)=>match nC P ty with|some (sz,_)=>.sl [] (some sz)|none=>.sl [] (some 0)
 |v=>v
def wI(P:Program)(tk:Bool)(ty:TypeId)(v:ae):ae:=match tk with|true=>yg P ty v|false=>bD v
def lG(P:Program)(gl:aM)(tk:Bool)(ty:TypeId)(T:VT):Op->Option ae
 |.move x=>match eC gl T x with|some v=>some (wI P tk ty v)|none=>none
 |.assign x=>match eC gl T x with|some v=>some (wI P tk ty v)|none=>none
 |.pick c a b=>match eC gl T c,eC gl T a,eC gl T b with|some c,some a,some b=>yY c a b|_,_,_=>none
 |.build t ps=>match AV gl T ps.toList with
  |some l=>(match tk with
   |true=>(match BK (nT ps.toList)with|true=>BU P t l|false=>none)
   |false=>BU P t (l.map λ p=>(p.1,bD p.2)))
  |none=>none
 |.nilCheck x=>match eC gl T x with|some a=>wR a|none=>none
 |.binOp h t x y _=>match eC gl T x,eC gl T y with|some a,some b=>dn P h t a b|_,_=>none
 |.unOp h _ x=>match eC gl T x with|some a=>vg h a|none=>none
 |.convert s d x=>match eC gl T x with|some a=>Ly P s d a|none=>none
 |.makeFunc (.func f) ⟨[]⟩ cap=>match As gl T cap.toList with|some b=>some (.fn f (b.map bD))|_=>none
 |.fieldAddr s x f=>match eC gl T x with|some a=>Ft P s f a|none=>none
 |.indexAddr t x ix=>match eC gl T x,eC gl T ix with|some a,some i=>HS P t a i|_,_=>none
 |.index t x ix=>match eC gl T x,eC gl T ix with|some a,some i=>CU P t a i|_,_=>none
 |.extract x i=>match eC gl T x with|some a=>sd i a|none=>none
 |.call {callee:=.builtin .len,args:=⟨[x]⟩,argTypes:=⟨t::_⟩}=>match eC gl T x with|some a=>Lo P t a|none=>none
 |.call {callee:=.builtin .min,args:=⟨[x,y]⟩,..}=>match eC gl T x,eC gl T y with|some a,some b=>DM a b|_,_=>none
 |.call {callee:=.builtin .max,args:=⟨[x,y]⟩,..}=>match eC gl T x,eC gl T y with|some a,some b=>BJ a b|_,_=>none
 |_=>none
def lh(tk:Bool):Op->List Tmp
 |.move x=>match tk with|true=>jB x|false=>[]
 |.assign x=>match tk with|true=>jB x|false=>[]
 |.build _ ps=>match tk with|true=>nT ps.toList|false=>[]
 |_=>[]
def Cb(P:Program)(t:TypeId)(cs:List ae)(off:Nat):Option (ae×Nat):=
 match Dv P t with
 |some (true,n)=>match qO cs off n with|some l=>some (.agg l,n)|none=>none
 |some (false,_)=>match qO cs off 1 with|some (c::_)=>some (c,1)|_=>none
 |none=>none
def vk(P:Program)(tk:Bool)(st:aq)(t:TypeId):ae->Option (ae×Option (Nat×Nat)×aq)
 |.rp cs off=>match Cb P t cs off with|some (v,_)=>some (bD v,none,st)|none=>none
 |.ptr d k off=>match bE st d k with
  |some cs=>match Cb P t cs off with
   |some (v,n)=>(match tk with
    |true=>some (v,some (d,k),oU st d k (cm cs off (((cs.drop off).take n).map di)))
    |false=>some (bD v,some (d,k),st))
   |none=>none
  |none=>none
 |_=>none
def fR(sz:Nat)(es:aS):Bool:=es.all λ e=>e.length==sz
def kU(x:Option ae)(d:Nat):Option Nat:=
 match x with
 |none=>some d
 |some v=>AJ v
def Bn(P:Program)(t:TypeId)(x:ae)(lo hi:Option ae):Option ae:=
 match x with
 |.sl es _=>
  match nC P t,kU lo 0,kU hi es.length with
  |some (sz,_),some l,some h=>if l<=h/\h<=es.length/\fR sz es=true then some (.sl ((es.drop l).take (h-l)) none)else none
  |_,_,_=>none
 |.sc (.str s)=>
  match P.underlying t,kU lo 0,kU hi s.length with
  |some .string,some l,some h=>if l<=h/\h<=s.length then some (.sc (.str ((s.drop l).take (h-l))))else none
  |_,_,_=>none
 |_=>none
def xO(P:Program)(gl:aM)(tk:Bool)(T:VT)(st:aq)(dst:Option Tmp):Op->Option (ae×List Tmp×aq)
 |.alloc t=>match dst,qZ P t with
  |some k,some z=>(match gY T st k z.cells with|some h=>some (.ptr st.up.length k 0,[],h)|none=>none)
  |_,_=>none
 |.box _ x=>match dst,eC gl T x with
  |some k,some v=>
   (match v.fw,gY T st k (match tk with|true=>v.cells|false=>(bD v).cells)with
    |false,some h=>some (.ptr st.up.length k 0,(match tk with|true=>jB x|false=>[]),h)
    |_,_=>none)
  |_,_=>none
 |.buildSlice t n ps=>
  match AV gl T ps.toList,nC P t,wK P t with
  |some l,some (sz,_),some z=>if n*sz<=16777216/\z.all ae.data=true then(match mM sz (List.replicate n (z.map di)) l with|some es=>some (.sl es (some sz),[],st)|none=>none)else none
  |_,_,_=>none
 |.makeSlice t l c=>
  match dst,eC gl T l,eC gl T c,nC P t,wK P t with
  |some k,some (.sc (.int .i64 (.ofNat n))),some (.sc (.int .i64 (.ofNat m))),some (sz,q),some z=>
   if n=m/\n<=1073741824/\q<=1024/\z.all ae.data=true/\sz=1 then(match gY T st k (List.replicate n (z.map di)).flatten with|some h=>some (.ms st.up.length k n sz,[],h)|none=>none)
   else none
  |_,_,_,_,_=>none
 |_=>none
def BP(P:Program)(st:aq)(t:TypeId)(x v:ae):Option (aq×Nat×Nat):=
 match x,IX P t with
 |.ptr d k off,some n=>
  match bE st d k with
  |some cs=>
   match v.fw,v.cells.length==n,decide (off+n<=cs.length),(d==st.up.length||v.cells.all ae.data)&&v.cells.all ae.cell with
   |false,true,true,true=>some (m9 st d k (cm cs off v.cells),d,k)
   |_,_,_,_=>none
  |none=>none
 |_,_=>none
def IN(st:aq):ae->Option aS
 |.sl es _=>some es
 |.ms d k len sz=>match bE st d k with
  |some cs=>(match cs.all ae.data,len*sz==cs.length with|true,true=>some (mO sz len (cs.map di))|_,_=>none)
  |none=>none
 |_=>none
def Hv(P:Program)(st:aq)(ts:List TypeId)(s x:ae):Option ae:=
 match ts,s with
 |[t,u],.sl es (some z)=>
  match nC P t,wK P t,tD P u with
  |some (sz,h),some _,true=>
   match IN st x with
   |some new=>if(z=sz\/(z=0/\es=[]))/\h<=1024/\es.length+new.length<=1073741824/\fR sz new=true then some (.sl (es++new) (some sz))else none
   |none=>none
  |_,_,_=>none
 |_,_=>none
def ae.open:ae->Bool
 |.un=>true
 |.ptr _ _ _=>true
 |.rp _ _=>true
 |.fn _ (_::_)=>true
 |.aL _=>true
 |.ms _ _ _ _=>false
 |.agg cs=>cs.any λ c=> !c.data
 |_=>false
def ae.fY:ae->Bool
 |.ms _ _ _ _=>true
 |_=>false
def gQ(S:List bI):ae->ae
 |.ms d k len sz=>match b7 S d k with
  |some cs=>(match cs.all ae.data,(len*sz==cs.length&&sz==1)with|true,true=>.sl (mO sz len (cs.map di)) none|_,_=>.aL [])
  |none=>.aL []
 |v=>bD v
def jw:ae->ae
 |.sc a=>.sc a
 |.sl es o=>.sl es o
 |.agg cs=>match cs.all ae.data with|true=>.agg (cs.map di)|false=>.aL []
 |.fn f []=>.fn f []
 |_=>.aL []
def lD:List ae->ae
 |[v]=>jw v
 |l=>.aL (l.map λ v=>bD (jw v))
def wx:ae->Bool
 |.sc _=>true
 |_=>false
inductive fq where
 |clean
 |box (d k:Nat)
 |all
inductive pj where
 |pure
 |read (b:Option (Nat×Nat))
 |new (b:Bool)
 |eP (d:fq)
def mZ:Bool->fq
 |true=>.all
 |false=>.clean
structure VR where
 v:ae
 src:List Tmp
 st:aq
 e:pj
def wJ(P:Program)(gl:aM)(Z7:cI)(T:VT)(st:aq)(f:Operand)(args:List Operand):Option VR:=
 match eC gl T f,As gl T args with
 |some (.fn g cap),some l=>match cy P g with
  |true=>match Z7 g ((l++cap).map (gQ (st.cur::st.up))) (st.cur::st.up)with
   |some (v,F::S,d)=>
    (match(l++cap).any ae.fY&&(!(wx v)||((l++cap).map (gQ (st.cur::st.up))).any ae.open)with
     |false=>some ⟨v,[],{w:=st.w||d,cur:=F,up:=S},.eP (mZ d)⟩
     |true=>none)
   |_=>none
  |false=>none
 |_,_=>none
def vq(P:Program)(gl:aM)(Z7:cI)(T:VT)(st:aq):Op->Option VR
 |.store t a x=>match eC gl T a,eC gl T x with
  |some p,some v=>(match BP P st t p v with|some (h,d,k)=>some ⟨.aL [],jB x,h,.eP (.box d k)⟩|none=>none)
  |_,_=>none
 |.call {callee:=.value f,args,..}=>wJ P gl Z7 T st f args.toList
 |.call {callee:=.builtin .append,args:=⟨[s,x]⟩,argTypes}=>match eC gl T s,eC gl T x with
  |some a,some b=>(match Hv P st argTypes.toList a b with|some v=>some ⟨v,jB s,st,.eP .clean⟩|none=>none)
  |_,_=>none
 |_=>none
structure eV where
 out:List (Nat×List Nat×List Nat)
 head:List (Nat×List Nat×List Nat)
 take:List Nat
def um(tk:List Nat):Option Tmp->Bool
 |some d=>tk.elem d
 |none=>false
def VG:Op->Bool
 |.buildSlice _ _ _=>false
 |_=>true
def eO(P:Program)(pf:eV)(gl:aM)(Z7:cI)(T:VT)(st:aq)(o:Oper):Option VR:=
 match dj o.op with
 |0=>match lG P gl (um pf.take o.dst) o.type T o.op with|some v=>some ⟨v,lh (um pf.take o.dst) o.op,st,.pure⟩|none=>none
 |1=>match o.op with
  |.load t a=>match eC gl T a with
   |some x=>(match vk P (um pf.take o.dst) st t x with|some (v,b,q)=>some ⟨v,[],q,.read b⟩|none=>none)
   |none=>none
  |.slice t x lo hi none=>match eC gl T x,D7 gl T lo,D7 gl T hi with
   |some a,some l,some h=>(match Bn P t a l h with|some v=>some ⟨v,[],st,.read none⟩|none=>none)
   |_,_,_=>none
  |_=>none
 |2=>match xO P gl (um pf.take o.dst) T st o.dst o.op with|some (v,src,q)=>some ⟨v,src,q,.new (VG o.op)⟩|none=>none
 |_=>vq P gl Z7 T st o.op
def gZ:List Tmp->VT->VT
 |[],T=>T
 |t::l,T=>gZ l (match lk T t with|some v=>(t,bD v)::T|none=>T)
def da(n:Nat)(T:VT)(d:Option Tmp)(v:ae):VT:=
 match d with
 |none=>T
 |some d=>if d<n then(d,v)::T else T
def uE(Z8:List Oper)(T:VT)(o:Oper):Bool:=
 match o.guard with
 |none=>true
 |some (j,want)=>
  match Z8[j]?with
  |some h=>match h.dst with
   |some d=>match jK T d with
    |.sc (.bool b)=>b==want
    |_=>false
   |none=>false
  |none=>false
def uq(Z8:List Oper)(T:VT)(o:Oper):Bool:=
 match o.guard with
 |none=>true
 |some (j,_)=>
  match Z8[j]?with
  |some h=>match h.dst with
   |some d=>match jK T d with
    |.sc (.bool _)=>true
    |.un=>true
    |_=>false
   |none=>false
  |none=>false
def uT(P:Program)(pf:eV)(gl:aM)(Z7:cI)(n:Nat)(Z8:List Oper):List Oper->VT->aq->Option (VT×aq)
 |[],T,st=>some (T,st)
 |o::l,T,st=>
  match uq Z8 T o,uE Z8 T o with
  |true,true=>match eO P pf gl Z7 T st o with
   |some r=>uT P pf gl Z7 n Z8 l (da n (gZ r.src T) o.dst r.v) r.st
   |none=>none
  |true,false=>uT P pf gl Z7 n Z8 l (da n T o.dst .un) st
  |false,_=>none
structure cR where
 cA:List Nat
 es:List (Nat×fq)
 al:Bool
 an:Bool
 rs:List (Nat×Option (Nat×Nat)×Nat)
def uA(h i:Nat)(Z:cR):pj->Option cR
 |.pure=>some Z
 |.read none=>match Z.cA,Z.al with
  |[],_=>some Z
  |_,true=>none
  |_,false=>some {Z with rs:=(i,none,Z.es.length)::Z.rs}
 |.read (some b)=>match Z.an,Z.al with
  |false,_=>some {Z with rs:=(i,some b,Z.es.length)::Z.rs}
  |true,true=>none
  |true,false=>some {Z with rs:=(i,none,Z.es.length)::Z.rs}
 |.new b=>some {Z with cA:=i::Z.cA,al:=true,an:=Z.an||b}
 |.eP d=>match qJ h Z.cA with
  |true=>some {Z with cA:=i::Z.cA,es:=(i,d)::Z.es,al:=false}
  |false=>none
def pB(P:Program)(pf:eV)(gl:aM)(Z7:cI)(n:Nat)(Z8:List Oper)(h:Nat->Nat):List Oper->Nat->cR->VT->aq->Option (cR×VT×aq)
 |[],_,Z,T,st=>some (Z,T,st)
 |o::l,i,Z,T,st=>
  match uq Z8 T o,uE Z8 T o with
  |true,true=>match eO P pf gl Z7 T st o with
   |some r=>match uA (h i) i Z r.e with
    |some q=>pB P pf gl Z7 n Z8 h l (i+1) q (da n (gZ r.src T) o.dst r.v) r.st
    |none=>none
   |none=>none
  |true,false=>pB P pf gl Z7 n Z8 h l (i+1) Z (da n T o.dst .un) st
  |false,_=>none
def tH(b:Nat×Nat):fq->Bool
 |.clean=>true
 |.box d k=> !(k==b.2&&d==b.1)
 |.all=>false
def iH(b:Nat×Nat)(m k:Nat):List (Nat×fq)->Bool
 |[]=>true
 |e::es=>(!(decide (min m k<=es.length)&&decide (es.length<max m k))||tH b e.2)&&iH b m k es
def yy(b:Option (Nat×Nat))(m:Nat)(fs:List (Nat×fq))(k:Nat):Bool:=
 match b with
 |none=>k==m
 |some b=>iH b m k fs
def tc(h:Nat->Nat)(j:Nat)(ok:Nat->Bool):List (Nat×fq)->Option Nat->Bool
 |[],up=>(match up with|some e=>tb (h j) e|none=>false)||ok 0
 |e::es,up=>((match up with|some e'=>tb (h j) e'|none=>false)||tb (h e.1) j||ok (es.length+1))&&tc h j ok es (some e.1)
def NH(h:Nat->Nat)(es:List (Nat×fq))(rs:List (Nat×Option (Nat×Nat)×Nat)):Bool:=rs.all λ r=>tc h r.1 (yy r.2.1 r.2.2 es) es none
def kF:cI:=λ _ _ _=>none
def xl:eV:=⟨[],[],[]⟩
def mg(es:List (Nat×fq)):pj->Option VR->Option (ae×Bool)
 |.pure,some ⟨v,_,_,.pure⟩=>some (v,false)
 |.read _,some ⟨v,_,_,.read none⟩=>some (v,true)
 |.read _,some ⟨v,_,_,.read (some b)⟩=>match iH b 0 es.length es with|true=>some (v,false)|false=>none
 |_,_=>none
def zt:Option (ae×Bool)->ae
 |some (v,_)=>v
 |none=>.aL []
def u9(Z:cR)(z:Option cR):Option (ae×Bool)->Option cR
 |some (_,true)=>some Z
 |_=>z
def qd(P:Program)(pf:eV)(gl:aM)(Z7:cI)(n:Nat)(Z8:List Oper)(h:Nat->Nat)(aK:aq):List Oper->Nat->cR->VT->VT->aq->Option (cR×VT×aq)
 |[],_,Z,T,_,st=>some (Z,T,st)
 |o::l,i,Z,T,U,st=>
  match uq Z8 T o,uE Z8 T o with
  |true,true=>match eO P pf gl Z7 T st o with
   |some r=>match mg Z.es r.e (eO P xl gl kF U aK o)with
    |q=>match u9 Z (uA (h i) i Z r.e) q with
     |some y=>qd P pf gl Z7 n Z8 h aK l (i+1) y (da n (gZ r.src T) o.dst r.v) (da n U o.dst (zt q)) r.st
     |none=>none
   |none=>none
  |true,false=>qd P pf gl Z7 n Z8 h aK l (i+1) Z (da n T o.dst .un) (da n U o.dst .un) st
  |false,_=>none
def Lj{α:Type}:Option α->Option α->Option α
 |some r,_=>some r
 |none,y=>y
def lp{α:Type}(l:List Nat)(T:List (Nat×α)):List (Nat×α):=l.filterMap λ i=>match lk T i with|some v=>some (i,v)|none=>none
def tm(l:List (Nat×List Nat×List Nat))(id:Nat)(T:VT)(st:aq):VT×aq:=
 match lk l id with
 |some (a,b)=>(lp a T,{st with cur:=lp b st.cur})
 |none=>(T,st)
def qY(Z8:Array Oper):Option (cR×VT×aq)->Option (VT×aq)
 |some (Z,T',h)=>match NH (cO Z8) Z.es Z.rs with|true=>some (T',h)|false=>none
 |none=>none
def ym(P:Program)(pf:eV)(gl:aM)(Z7:cI)(n:Nat)(Z8:Array Oper)(T:VT)(st:aq)(h:Bool):Option (VT×aq):=
 match h with
 |false=>uT P pf gl Z7 n Z8.toList Z8.toList T st
 |true=>Lj (qY Z8 (pB P pf gl Z7 n Z8.toList (cO Z8) Z8.toList 0 ⟨[],[],false,false,[]⟩ T st)) (qY Z8 (qd P pf gl Z7 n Z8.toList (cO Z8) st Z8.toList 0 ⟨[],[],false,false,[]⟩ T T st))
def Dp:Code->Nat
 |.region id _ _=>id
 |.seq a _=>Dp a
 |.block _ a=>Dp a
 |_=>1000000
abbrev bZ:=eE×VT×aq
def eN(P:Program)(pf:eV)(gl:aM)(Z7:cI)(n:Nat):Nat->Code->VT->aq->Option bZ
 |0,_,_,_=>none
 |m+1,c,T,st=>
  match c with
  |.skip=>some (.normal,T,st)
  |.region id Z8 d=>match ym P pf gl Z7 n Z8 T st d with|some (T',h)=>some (.normal,tm pf.out id T' h)|none=>none
  |.seq a b=>match eN P pf gl Z7 n m a T st with
   |some (.normal,T',h)=>eN P pf gl Z7 n m b T' h
   |r=>r
  |.cond x a b=>match eC gl T x with
   |some (.sc (.bool true))=>eN P pf gl Z7 n m a T st
   |some (.sc (.bool false))=>eN P pf gl Z7 n m b T st
   |_=>none
  |.block id a=>match eN P pf gl Z7 n m a T st with
   |some (.exit j,T',h)=>if j=id then some (.normal,T',h)else some (.exit j,T',h)
   |r=>r
  |.loop a=>match eN P pf gl Z7 n m a (tm pf.head (Dp a) T st).1 (tm pf.head (Dp a) T st).2 with
   |some (.normal,T',h)=>eN P pf gl Z7 n m (.loop a) T' h
   |r=>r
  |.exit id=>some (.exit id,T,st)
  |.ret=>some (.ret,T,st)
  |_=>none
def lM:Nat->List ae->VT
 |_,[]=>[]
 |i,v::l=>(i,v)::lM (i+1) l
def tV(P:Program)(st:aq)(T:VT):List ResultVar->Option (List ae)
 |[]=>some []
 |.tmp t::rs=>match tV P st T rs with|some l=>some (jK T t::l)|none=>none
 |.cell a t::rs=>match vk P false st t (jK T a),tV P st T rs with|some (v,_,_),some l=>some (v::l)|_,_=>none
def tF(P:Program)(pol:FuncId->eV)(gl:aM)(Z7:cI)(m:Nat)(f:FuncId)(args:List ae)(S:List bI):Option (ae×List bI×Bool):=
 match P.funcs[f]?with
 |none=>none
 |some fn=>
  match fn.body with
  |none=>none
  |some c=>
   match eN P (pol f) gl Z7 (args.length+(fn.ntmps-args.length)) m c (lM 0 args) (aH [] S)with
   |some (.exit _,_,_)=>none
   |some (_,T,st)=>match tV P st T fn.results.toList with
    |some l=>some (lD l,st.up,st.w)
    |none=>none
   |none=>none
def xW(P:Program)(pol:FuncId->eV)(gl:aM)(Z7:cI)(m:Nat)(f:FuncId)(args:List ae)(S:List bI):Option (ae×List bI×Bool):=
 match args.any ae.open with
 |false=>match tF P pol gl Z7 m f args []with
  |some (v,_,_)=>some (v,S,false)
  |none=>none
 |true=>tF P pol gl Z7 m f args S
def ji(P:Program)(pol:FuncId->eV)(gl:aM)(bset:FuncId->Bool)(base:eH):Nat->cI
 |0=>λ _ _ _=>none
 |m+1=>λ f args S=>match bset f with
  |true=>(match args.any ae.open,base f args with
   |false,some v=>some (v,S,false)
   |_,_=>none)
  |false=>xW P pol gl (ji P pol gl bset base m) m f args S
section
variable{a e vs:List ae}{es:aS}{v:ae}
abbrev Im:=Nat->Option Row
abbrev Bx:=Nat->Nat->Option Nat
mutual
def RP(I:Im):ae->aa->Prop
 |.sc a,b=>b=a/\lX a=true
 |.sl es none,b=>(es=[]/\(b=.ai\/b=.dq))\/∃v off lim r sz,b=.slice v off es.length lim/\I v=some r/\(es=[]\/lim=none/\r.sz=sz)/\off+es.length*sz<=r.cells.length/\bR I sz es ((r.cells.drop off).take (es.length*sz))
 |_,_=>False
def cE(I:Im):List ae->List aa->Prop
 |[],bs=>bs=[]
 |v::vs,bs=>∃c cs,bs=c::cs/\RP I v c/\cE I vs cs
def bR(I:Im)(sz:Nat):aS->List aa->Prop
 |[],bs=>bs=[]
 |e::es,bs=>e.length=sz/\cE I e (bs.take sz)/\bR I sz es (bs.drop sz)
end
mutual
def aA(ρ:Bx)(I:Im):ae->aa->Prop
 |.sc a,b=>b=a/\lX a=true
 |.ptr d k off,b=>∃u,ρ d k=some u/\b=.ptr u off
 |.rp cs off,b=>∃u o r,b=.ptr u (o+off)/\I u=some r/\o+cs.length<=r.cells.length/\cE I cs ((r.cells.drop o).take cs.length)
 |.sl es _,b=>RP I (.sl es none) b
 |.ms d k len _,b=>∃u,ρ d k=some u/\b=.slice u 0 len none
 |.fn f cs,b=>∃bs,b=.func f [] bs/\bB ρ I cs bs
 |.agg cs,b=>cs.all ae.cell=true/\∃bs,b=.agg bs/\bB ρ I cs bs
 |.aL vs,b=>vs=[]\/∃bs,b=.tuple bs/\bB ρ I vs bs
 |.un,b=>b=.tuple []
def bB(ρ:Bx)(I:Im):List ae->List aa->Prop
 |[],bs=>bs=[]
 |v::vs,bs=>∃c cs,bs=c::cs/\aA ρ I v c/\bB ρ I vs cs
end
def cu(I h:Im):Prop:=∀u r,I u=some r->h u=some r
def kt(ρ ρ':Bx):Prop:=∀d k u,ρ d k=some u->ρ' d k=some u
theorem cu.refl(I:Im):cu I I:=λ _ _ h=>h
def cu.trans{a b c:Im}(h:cu a b)(k:cu b c):cu a c:=λ u r e=>k u r (h u r e)
theorem kt.refl(ρ:Bx):kt ρ ρ:=λ _ _ _ h=>h
def kt.trans{a b c:Bx}(h:kt a b)(k:kt b c):kt a c:=λ d k' u e=>k d k' u (h d k' u e)
theorem zR{I:Im}{bs:List aa}:cE I [] bs↔bs=[]:=by simp only[cE]
def qf{I:Im}{bs:List aa}:cE I (v::vs) bs↔∃c cs,bs=c::cs/\RP I v c/\cE I vs cs:=by simp only[cE]
def GN{I:Im}{bs:List aa}:bR I sz [] bs↔bs=[]:=by simp only[bR]
theorem nt{I:Im}{bs:List aa}:bR I sz (e::es) bs↔e.length=sz/\cE I e (bs.take sz)/\bR I sz es (bs.drop sz):=by simp only[bR]
theorem jI{ρ:Bx}{I:Im}{bs:List aa}:bB ρ I [] bs↔bs=[]:=by simp only[bB]
theorem cf{ρ:Bx}{I:Im}{bs:List aa}:bB ρ I (v::vs) bs↔∃c cs,bs=c::cs/\aA ρ I v c/\bB ρ I vs cs:=by simp only[bB]
mutual
theorem pU{I I':Im}(h:cu I I'):∀(v:ae) (b:aa),RP I v b->RP I' v b
 |.sc _,_,e=>e
 |.sl es none,b,e=>by
  simp only[RP]at e⊢;rcases e with e|⟨v,off,lim,r,sz,h1,h2,h3,h4,h5⟩
  .exact .inl e
  exact .inr ⟨v,off,lim,r,sz,h1,h _ _ h2,h3,h4,AZ h sz es _ h5⟩
 |.sl es (some _),_,e=>by simp only[RP]at e
 |.ptr _ _ _,_,e=>by simp only[RP]at e
 |.rp _ _,_,e=>by simp only[RP]at e
 |.ms _ _ _ _,_,e=>by simp only[RP]at e
 |.fn _ _,_,e=>by simp only[RP]at e
 |.agg _,_,e=>by simp only[RP]at e
 |.aL _,_,e=>by simp only[RP]at e
theorem ED{I I':Im}(h:cu I I'):∀(vs:List ae) (bs:List aa),cE I vs bs->cE I' vs bs
 |[],_,e=>e
 |v::vs,_,e=>by obtain⟨c,cs,rfl,h1,h2⟩:=qf.1 e;exact qf.2 ⟨c,cs,rfl,pU h v c h1,ED h vs cs h2⟩
theorem AZ{I I':Im}(h:cu I I')(sz:Nat):∀(es:aS) (bs:List aa),bR I sz es bs->bR I' sz es bs
 |[],_,e=>e
 |e::es,bs,k=>by obtain⟨h1,h2,h3⟩:=nt.1 k;exact nt.2 ⟨h1,ED h e _ h2,AZ h sz es _ h3⟩
end
mutual
theorem wW{ρ ρ':Bx}{I I':Im}(k:kt ρ ρ')(h:cu I I'):∀(v:ae) (b:aa),aA ρ I v b->aA ρ' I' v b
 |.sc _,_,e=>e
 |.un,_,e=>by simp only[aA]at e⊢;exact e
 |.sl es _,b,e=>pU h (.sl es none) b e
 |.ptr _ _ _,_,e=>by simp only[aA]at e⊢;obtain⟨u,h1,h2⟩:=e;exact⟨u,k _ _ _ h1,h2⟩
 |.rp cs _,_,e=>by simp only[aA]at e⊢;obtain⟨u,o,r,h1,h2,h3,h4⟩:=e;exact⟨u,o,r,h1,h _ _ h2,h3,ED h cs _ h4⟩
 |.ms _ _ _ _,_,e=>by simp only[aA]at e⊢;obtain⟨u,h1,h2⟩:=e;exact⟨u,k _ _ _ h1,h2⟩
 |.fn _ cs,_,e=>by simp only[aA]at e⊢;obtain⟨bs,h1,h2⟩:=e;exact⟨bs,h1,xR k h cs bs h2⟩
 |.agg cs,_,e=>by simp only[aA]at e⊢;obtain⟨h0,bs,h1,h2⟩:=e;exact⟨h0,bs,h1,xR k h cs bs h2⟩
 |.aL cs,_,e=>by
  simp only[aA]at e⊢;rcases e with e|⟨bs,h1,h2⟩
  .exact .inl e
  exact .inr ⟨bs,h1,xR k h cs bs h2⟩
theorem xR{ρ ρ':Bx}{I I':Im}(k:kt ρ ρ')(h:cu I I'):∀(vs:List ae) (bs:List aa),bB ρ I vs bs->bB ρ' I' vs bs
 |[],_,e=>e
 |v::vs,_,e=>by obtain⟨c,cs,rfl,h1,h2⟩:=cf.1 e;exact cf.2 ⟨c,cs,rfl,wW k h v c h1,xR k h vs cs h2⟩
end
def QE(d k:Nat)(ρ ρ':Bx):Prop:=∀d' k' u,(d'≠d\/k'≠k)->ρ d' k'=some u->ρ' d' k'=some u
theorem Zk(h:(!(k'==k&&d'==d))=true):d'≠d\/k'≠k:=by grind
mutual
theorem abR{ρ ρ':Bx}{I:Im}{d k:Nat}(h:QE d k ρ ρ'):∀(v:ae) (b:aa),lr d k v=true->aA ρ I v b->aA ρ' I v b
 |.sc _,_,_,e=>e
 |.un,_,_,e=>by simp only[aA]at e⊢;exact e
 |.sl es _,b,_,e=>e
 |.ptr _ _ _,_,n,e=>by simp only[aA]at e⊢;obtain⟨u,h1,h2⟩:=e;simp only[lr]at n;exact⟨u,h _ _ _ (Zk n) h1,h2⟩
 |.rp cs _,_,_,e=>e
 |.ms _ _ _ _,_,n,e=>by simp only[aA]at e⊢;obtain⟨u,h1,h2⟩:=e;simp only[lr]at n;exact⟨u,h _ _ _ (Zk n) h1,h2⟩
 |.fn _ cs,_,n,e=>by simp only[aA]at e⊢;simp only[lr]at n;obtain⟨bs,h1,h2⟩:=e;exact⟨bs,h1,Ec h cs bs n h2⟩
 |.agg cs,_,n,e=>by simp only[aA]at e⊢;simp only[lr]at n;obtain⟨h0,bs,h1,h2⟩:=e;exact⟨h0,bs,h1,Ec h cs bs n h2⟩
 |.aL cs,_,n,e=>by
  simp only[aA]at e⊢;simp only[lr]at n;rcases e with e|⟨bs,h1,h2⟩
  .exact .inl e
  exact .inr ⟨bs,h1,Ec h cs bs n h2⟩
theorem Ec{ρ ρ':Bx}{I:Im}{d k:Nat}(h:QE d k ρ ρ'):∀(vs:List ae) (bs:List aa),iJ d k vs=true->bB ρ I vs bs->bB ρ' I vs bs
 |[],_,_,e=>e
 |v::vs,_,n,e=>by obtain⟨c,cs,rfl,h1,h2⟩:=cf.1 e;simp only[iJ,aR]at n;exact cf.2 ⟨c,cs,rfl,abR h v c n.1 h1,Ec h vs cs n.2 h2⟩
end
theorem xU{I:Im}:∀{vs:List ae} {bs:List aa},cE I vs bs->bs.length=vs.length
 |[],_,h=>by rw[zR.1 h];rfl
 |v::vs,_,h=>by obtain⟨c,cs,rfl,_,q⟩:=qf.1 h;simp[xU q]
theorem UL{I:Im}:∀{vs:List ae} {bs:List aa} {i:Nat} {v:ae},cE I vs bs->vs[i]? =some v->∃b,bs[i]? =some b/\RP I v b
 |[],_,_,_,_,e=>by simp at e
 |v::vs,_,i,w,h,e=>by
  obtain⟨c,cs,rfl,y,q⟩:=qf.1 h;cases i;.simp_all
  rename_i i;simp at e;simpa using UL q e
theorem SF{I:Im}:∀{vs:List ae} {bs:List aa},bs.length=vs.length->(∀(i:Nat) (v:ae) (b:aa),vs[i]? =some v->bs[i]? =some b->RP I v b)->cE I vs bs
 |[],bs,q,_=>zR.2 (km q)
 |v::vs,bs,q,h=>by
  cases bs;.simp at q
  rename_i b bs;exact qf.2 ⟨b,bs,rfl,h 0 v b (by simp) (by simp),SF (by simpa using q) λ i v b e e'=>h (i+1) v b (by simpa using e) (by simpa using e')⟩
def ahw{I:Im}:∀{a c:List ae} {x y:List aa},cE I a x->cE I c y->cE I (a++c) (x++y)
 |[],_,_,_,h,k=>by rw[zR.1 h];exact k
 |v::a,c,_,y,h,k=>by obtain⟨b,bs,rfl,A,q⟩:=qf.1 h;exact qf.2 ⟨b,bs++y,rfl,A,ahw q k⟩
theorem aaV{I:Im}(n:Nat){x:List aa}(h:cE I a x):cE I (a.take n) (x.take n):=by grind[SF,xU,UL]
theorem Zg{I:Im}(n:Nat){x:List aa}(h:cE I a x):cE I (a.drop n) (x.drop n):=by grind[SF,xU,UL]
theorem uz{I:Im}:∀{es:aS} {bs:List aa},bR I sz es bs->bs.length=es.length*sz
 |[],_,h=>by rw[GN.1 h];simp
 |e::es,bs,h=>by obtain⟨y,q,h3⟩:=nt.1 h;have a:=xU q;have b:=uz h3;grind[Nat.succ_mul]
theorem Rf{I:Im}:∀{es fs:aS} {x y:List aa},bR I sz es x->bR I sz fs y->bR I sz (es++fs) (x++y)
 |[],_,_,_,h,k=>by rw[GN.1 h];exact k
 |e::es,fs,x,y,h,k=>by
  obtain⟨q,D,h3⟩:=nt.1 h;have A:=xU D;rw[n8,q]at A;refine nt.2 ⟨q,?_,?_⟩;.grind
  rw[aA9 (by omega)];exact Rf h3 k
theorem Qn{I:Im}:∀(n:Nat) {es:aS} {x:List aa},bR I sz es x->bR I sz (es.drop n) (x.drop (n*sz))
 |0,_,_,h=>by simpa using h
 |n+1,[],_,h=>by rw[GN.1 h];simp[bR]
 |n+1,e::es,x,h=>by obtain⟨y,q,h3⟩:=nt.1 h;have:=Qn n h3;grind[List.drop_drop]
theorem acP{I:Im}:∀(n:Nat) {es:aS} {x:List aa},bR I sz es x->bR I sz (es.take n) (x.take (n*sz))
 |0,_,_,h=>by simp[bR]
 |n+1,[],_,h=>by rw[GN.1 h];simp[bR]
 |n+1,e::es,x,h=>by
  obtain⟨q,y,h3⟩:=nt.1 h;rw[dC];refine nt.2 ⟨q,?_,?_⟩;.grind
  rw[zG,xy,Nat.add_sub_cancel];exact acP n h3
theorem anS{I:Im}{x:List aa}(h:bR I sz es x)(hi:es[i]? =some e):e.length=sz/\i*sz+sz<=x.length/\cE I e ((x.drop (i*sz)).take sz):=by
 have A:=uz h;have q:=(mR.1 hi).1;have y:=Qn i h;have:es.drop i=e::es.drop (i+1):=by grind[List.drop_eq_getElem_cons]
 rw[this]at y;obtain⟨F,D,_⟩:=nt.1 y;refine⟨F,?_,D⟩;rw[A];have:(i+1)*sz<=es.length*sz:=mQ _ q;grind
theorem Tu{I:Im}{sz':Nat}{x:List aa}(h:bR I sz es x)(k:fR sz' es=true):es=[]\/sz=sz':=by
 cases es;.exact .inl rfl
 rename_i e es;grind[nt,fR]
theorem pz{ρ:Bx}{I:Im}:∀{vs:List ae} {bs:List aa},bB ρ I vs bs->bs.length=vs.length
 |[],_,h=>by rw[jI.1 h];rfl
 |v::vs,_,h=>by obtain⟨c,cs,rfl,_,q⟩:=cf.1 h;simp[pz q]
theorem Fm{ρ:Bx}{I:Im}:∀{vs:List ae} {bs:List aa} {i:Nat} {v:ae},bB ρ I vs bs->vs[i]? =some v->∃b,bs[i]? =some b/\aA ρ I v b
 |[],_,_,_,_,e=>by simp at e
 |v::vs,_,i,w,h,e=>by
  obtain⟨c,cs,rfl,y,q⟩:=cf.1 h;cases i;.simp_all
  rename_i i;simp at e;simpa using Fm q e
theorem UA{ρ:Bx}{I:Im}:∀{vs:List ae} {bs:List aa},bs.length=vs.length->(∀(i:Nat) (v:ae) (b:aa),vs[i]? =some v->bs[i]? =some b->aA ρ I v b)->bB ρ I vs bs
 |[],bs,q,_=>jI.2 (km q)
 |v::vs,bs,q,h=>by
  cases bs;.simp at q
  rename_i b bs;exact cf.2 ⟨b,bs,rfl,h 0 v b (by simp) (by simp),UA (by simpa using q) λ i v b e e'=>h (i+1) v b (by simpa using e) (by simpa using e')⟩
theorem OF{ρ:Bx}{I:Im}:∀{a c:List ae} {x y:List aa},bB ρ I a x->bB ρ I c y->bB ρ I (a++c) (x++y)
 |[],_,_,_,h,k=>by rw[jI.1 h];exact k
 |v::a,c,_,y,h,k=>by obtain⟨b,bs,rfl,A,q⟩:=cf.1 h;exact cf.2 ⟨b,bs++y,rfl,A,OF q k⟩
theorem JQ{ρ:Bx}{I:Im}(n:Nat){x:List aa}(h:bB ρ I a x):bB ρ I (a.take n) (x.take n):=by grind[UA,pz,Fm]
theorem KD{ρ:Bx}{I:Im}(n:Nat){x:List aa}(h:bB ρ I a x):bB ρ I (a.drop n) (x.drop n):=by grind[UA,pz,Fm]
theorem TO{ρ:Bx}{I:Im}{new:List ae}{x y:List aa}(h:bB ρ I a x)(k:bB ρ I new y)(off:Nat):bB ρ I (cm a off new) (ep x off y):=by grind[cm,ep,pz,OF,JQ,KD]
def anl{ρ:Bx}{I:Im}:∀{v:ae} {b:aa},RP I v b->aA ρ I v b
 |.sc _,_,h=>by simp only[RP]at h;simp only[aA];exact h
 |.sl es none,_,h=>h
 |.sl es (some _),_,h=>by simp only[RP]at h
 |.ptr _ _ _,_,h=>by simp only[RP]at h
 |.rp _ _,_,h=>by simp only[RP]at h
 |.ms _ _ _ _,_,h=>by simp only[RP]at h
 |.fn _ _,_,h=>by simp only[RP]at h
 |.agg _,_,h=>by simp only[RP]at h
 |.aL _,_,h=>by simp only[RP]at h
def B0{ρ:Bx}{I:Im}:∀{vs:List ae} {bs:List aa},cE I vs bs->bB ρ I vs bs
 |[],_,h=>h
 |v::vs,_,h=>by obtain⟨c,cs,rfl,y,q⟩:=qf.1 h;exact cf.2 ⟨c,cs,rfl,anl y,B0 q⟩
def au8{I:Im}(h:RP I v b):v.data=true/\di v=v/\v.cell=true:=by
 cases v with
 |sc a=>exact⟨rfl,rfl,rfl⟩
 |sl es o=>cases o with
  |none=>exact⟨rfl,rfl,rfl⟩
  |some _=>simp only[RP]at h
 |_=>simp only[RP]at h
def KT{I:Im}:∀{vs:List ae} {bs:List aa},cE I vs bs->vs.all ae.data=true/\vs.map di=vs/\vs.all ae.cell=true
 |[],_,_=>⟨rfl,rfl,rfl⟩
 |v::vs,_,h=>by obtain⟨c,cs,rfl,y,q⟩:=qf.1 h;obtain⟨a,b,c⟩:=au8 y;obtain⟨F,D,A⟩:=KT q;simp_all
def awR{ρ:Bx}{I:Im}(h:aA ρ I v b)(q:v.data=true):RP I (di v) b:=by
 cases v with
 |sc a=>simp only[aA]at h;simp only[di,RP];exact h
 |sl es o=>exact h
 |_=>simp[ae.data]at q
def Dw{ρ:Bx}{I:Im}:∀{vs:List ae} {bs:List aa},bB ρ I vs bs->vs.all ae.data=true->cE I (vs.map di) bs
 |[],_,h,_=>h
 |v::vs,_,h,q=>by obtain⟨c,cs,rfl,A,y⟩:=cf.1 h;simp only[ug,aR]at q;exact qf.2 ⟨c,cs,rfl,awR A q.1,Dw y q.2⟩
def aqf{ρ:Bx}{I:Im}(h:aA ρ I v b):aA ρ I (di v) b:=by
 cases v with
 |sl es o=>exact h
 |_=>exact h
theorem Jt{ρ:Bx}{I:Im}:∀{vs:List ae} {bs:List aa},bB ρ I vs bs->bB ρ I (vs.map di) bs
 |[],_,h=>h
 |v::vs,_,h=>by obtain⟨c,cs,rfl,y,q⟩:=cf.1 h;exact cf.2 ⟨c,cs,rfl,aqf y,Jt q⟩
theorem ayY(v:ae):(di v).cell=v.cell:=by cases v<;>rfl
theorem OY(vs:List ae):(vs.map di).all ae.cell=vs.all ae.cell:=by
 induction vs with
 |nil=>rfl
 |cons v vs h=>grind[ayY]
theorem nu{ρ:Bx}{I:Im}(h:aA ρ I v b):aA ρ I (bD v) b:=by
 cases v with
 |sl es o=>exact h
 |agg cs=>
  simp only[aA,bD]at h⊢;grind[OY,Jt]
 |_=>exact h
def BV{ρ:Bx}{I:Im}(h:aA ρ I v b)(A:v.fw=false):bB ρ I v.cells b.cells:=by
 cases v with
 |agg cs=>
  simp only[aA]at h;obtain⟨_,bs,rfl,y⟩:=h;exact y
 |aL vs=>simp[ae.fw]at A
 |un=>simp[ae.fw]at A
 |sc a=>
  have q:=h;simp only[aA]at q;obtain⟨rfl,y⟩:=q;have:b.cells=[b]:=by cases b<;>first|rfl|simp[lX]at y
  rw[this];exact cf.2 ⟨b,[],rfl,h,jI.2 rfl⟩
 |ptr d k off=>
  have q:=h;simp only[aA]at q;obtain⟨u,_,rfl⟩:=q;exact cf.2 ⟨_,[],rfl,h,jI.2 rfl⟩
 |rp cs off=>
  have q:=h;simp only[aA]at q;obtain⟨u,o,r,rfl,_⟩:=q;exact cf.2 ⟨_,[],rfl,h,jI.2 rfl⟩
 |sl es o=>
  have q:RP I (.sl es none) b:=h;simp only[RP]at q;rcases q with⟨_,rfl|rfl⟩|⟨_,_,_,_,_,rfl,_⟩
  .exact cf.2 ⟨_,[],rfl,h,jI.2 rfl⟩
  .exact cf.2 ⟨_,[],rfl,h,jI.2 rfl⟩
  exact cf.2 ⟨_,[],rfl,h,jI.2 rfl⟩
 |ms d k n sz=>
  have q:=h;simp only[aA]at q;obtain⟨u,_,rfl⟩:=q;exact cf.2 ⟨_,[],rfl,h,jI.2 rfl⟩
 |fn f cs=>
  have q:=h;simp only[aA]at q;obtain⟨bs,rfl,_⟩:=q;exact cf.2 ⟨_,[],rfl,h,jI.2 rfl⟩
def vp{ρ:Bx}{I:Im}(h:aA ρ I v b)(q:v.cell=true):b.eh=true:=by
 cases v with
 |agg cs=>simp[ae.cell]at q
 |aL vs=>simp[ae.cell]at q
 |un=>simp[ae.cell]at q
 |sc a=>
  simp only[aA]at h;obtain⟨rfl,A⟩:=h;cases b<;>first|rfl|simp[lX]at A
 |ptr d k off=>simp only[aA]at h;obtain⟨u,_,rfl⟩:=h;rfl
 |rp cs off=>simp only[aA]at h;obtain⟨u,o,r,rfl,_⟩:=h;rfl
 |sl es o=>
  have y:RP I (.sl es none) b:=h;simp only[RP]at y;rcases y with⟨_,rfl|rfl⟩|⟨_,_,_,_,_,rfl,_⟩<;>rfl
 |ms d k n sz=>simp only[aA]at h;obtain⟨u,_,rfl⟩:=h;rfl
 |fn f cs=>simp only[aA]at h;obtain⟨bs,rfl,_⟩:=h;rfl
def Rx{ρ:Bx}{I:Im}:∀{vs:List ae} {bs:List aa},bB ρ I vs bs->vs.all ae.cell=true->bs.all aa.eh=true
 |[],_,h,_=>by rw[jI.1 h];rfl
 |v::vs,_,h,q=>by obtain⟨c,cs,rfl,A,y⟩:=cf.1 h;simp only[ug,aR]at q⊢;exact⟨vp A q.1,Rx y q.2⟩
def aub{ρ:Bx}{I:Im}(h:aA ρ I v b)(q:v.fw=false):v.cells.all ae.cell=true:=by
 cases v with
 |agg cs=>simp only[aA]at h;exact h.1
 |aL vs=>simp[ae.fw]at q
 |un=>simp[ae.fw]at q
 |_=>rfl
theorem zo(i:Nat)(v:α)(l:List (Nat×α))(j:Nat):lk ((i,v)::l) j=if i=j then some v else lk l j:=rfl
theorem Ve(k:Nat):∀(l:List (Nat×α)) (j:Nat),lk (lJ k l) j=if j=k then none else lk l j
 |[],j=>by simp[lJ,lk]
 |(i,w)::l,j=>by have h:=Ve k l j;grind[lJ,zo]
theorem Oq(k:Nat)(cs:List ae):∀(F:bI) (j:Nat),lk (mN F k cs) j=if j=k then(lk F j).map (λ _=>cs)else lk F j
 |[],j=>by simp[mN,lk]
 |(i,w)::F,j=>by have h:=Oq k cs F j;grind[mN,zo]
theorem Io:∀(l:List Nat) (T:List (Nat×α)) (j:Nat) (v:α),lk (lp l T) j=some v->lk T j=some v
 |[],T,j,v,h=>by cases h
 |i::l,T,j,v,h=>by
  unfold lp at h;simp only[List.filterMap_cons]at h;split at h;.exact Io l T j v h
  rename_i p q;split at q
  .rename_i w y;cases q;rw[zo]at h;split at h;.simp_all
   exact Io l T j v h
  cases q
def Xf:∀{T:VT} {i:Nat} {v:ae},sM d k T=true->lk T i=some v->lr d k v=true
 |(j,w)::T,i,v,h,e=>by
  simp only[sM,aR]at h;rw[zo]at e;split at e;.cases e;exact h.1
  exact Xf h.2 e
 |[],_,_,_,e=>by cases e
def agQ:∀{F:bI} {i:Nat} {v:List ae},tC d k F=true->lk F i=some v->iJ d k v=true
 |(j,w)::T,i,v,h,e=>by
  simp only[tC,aR]at h;rw[zo]at e;split at e;.cases e;exact h.1
  exact agQ h.2 e
 |[],_,_,_,e=>by cases e
end
section
variable{es:aS}{ix v y:ae}{vs:List ae}
inductive bX where
 |tmp (d i j:Nat)
 |box (d k j:Nat)
 |up (s:bX)
structure Gh where
 ρ:Bx
 I:Im
 own:Nat->Option bX
 tp:Nat->Nat
def cut(D:Nat)(ρ:Bx):Bx:=λ d k=>if d<D then ρ d k else none
theorem RQ{D q:Nat}(h:D<=q)(ρ:Bx):kt (cut D ρ) (cut q ρ):=λ d k u e=>by grind[cut]
theorem GC(D:Nat)(ρ:Bx):kt (cut D ρ) ρ:=λ d k u e=>by grind[cut]
def jg(G:Gh)(s:bX)(es:aS)(sz:Nat)(a:aa):Prop:=(es=[]/\a=.ai)\/∃v off r,a=.slice v off es.length none/\G.I v=some r/\r.sz=sz/\0<sz/\r.ro=false/\off+es.length*sz=r.cells.length/\G.own r.aC=some s/\G.tp r.aC=r.start+r.cells.length
def MD(G:Gh)(H:ah):Prop:=∀f s,G.own f=some s->f<H.next/\∃mem,H.aG.get f=some mem/\∀u∈mem,u<H.next/\∀ru,H.objs.get u=some ru->ru.start+ru.cells.length<=G.tp f
def mw(G:Gh)(s:Nat->bX)(vs:List ae)(Z9:List aa):Prop:=∀j es sz a,vs[j]? =some (.sl es (some sz))->Z9[j]? =some a->jg G (s j) es sz a
structure uW (G:Gh) (H:ah) (d k:Nat) (cs:List ae) (u:Nat) (r:Row):Prop where
 ref:G.ρ d k=some u
 row:H.objs.get u=some r
 rw:r.ro=false
 sz:r.sz=1
 aC:r.aC=u
 mem:H.aG.get u=some [u]
 im:G.I u=none
 un:G.own u=none
 cells:bB (cut (d+1) G.ρ) G.I cs r.cells
 cell:cs.all ae.cell=true
 own:mw G (.box d k) cs r.cells
structure cn (G:Gh) (st:aq) (H:ah):Prop where
 gd:Good H
 fJ:∀u r,G.I u=some r->H.objs.get u=some r
 box:∀d k cs,bE st d k=some cs->∃u r,uW G H d k cs u r
 inj:∀d k d' k' cs cs' u,bE st d k=some cs->bE st d' k'=some cs'->G.ρ d k=some u->G.ρ d' k'=some u->d=d'/\k=k'
 aC:MD G H
 lq:∀d k u,G.ρ d k=some u->u<H.next
def cn.wf{G:Gh}{st:aq}{H:ah}(h:cn G st H):WF H:=h.gd.wf
def nF(G:Gh)(D:Nat)(T:VT)(T':Tr aa):Prop:=∀i v,lk T i=some v->aA (cut (D+1) G.ρ) G.I v (aw T' i)/\mw G (.tmp D i) v.cells (aw T' i).cells
def kJ(ng:Nat)(gl:aM)(G:Gh):Prop:=∀g cs,gl g=some cs->g<ng/\∃r,G.I g=some r/\cs.length<=r.cells.length/\cE G.I cs (r.cells.take cs.length)
def nN(vs:List ae)(Z9:List aa):Prop:=∀(j:Nat) (es:aS) (sz:Nat) (a:aa),vs[j]? =some (.sl es (some sz))->Z9[j]? =some a->es=[]/\a=.ai
def nN.own(h:nN vs Z9)(G:Gh)(s:Nat->bX):mw G s vs Z9:=λ j es sz a A q=>.inl (h j es sz a A q)
theorem Ts:di v≠.sl es (some sz):=by cases v<;>simp[di]
theorem W1:nN (vs.map di) Z9:=by intro j es sz a h _;grind[Ts]
theorem pw:nN (bD v).cells Z9:=by
 cases v with
 |agg cs=>exact W1
 |sl es o=>
  intro j q sz a h _;grind[bD,ae.cells]
 |_=>
  intro j q sz a h _;cases j;.simp[bD,ae.cells]at h
  rename_i j;simp[bD,ae.cells]at h
theorem iF(h:∀es sz,v≠.sl es (some sz))(q:v.cells=[v]):nN v.cells Z9:=by intro j es sz a e _;grind
def rf(G:Gh)(D:Nat)(x:Operand)(vs:List ae)(Z9:List aa):Prop:=∀j es sz a,vs[j]? =some (.sl es (some sz))->Z9[j]? =some a->(es=[]/\a=.ai)\/∃t,x=.tmp t/\jg G (.tmp D t j) es sz a
def nN.x(h:nN vs Z9)(G:Gh)(D:Nat)(x:Operand):rf G D x vs Z9:=λ j es sz a A q=>.inl (h j es sz a A q)
variable{P:Program}{ng:Nat}{gl:aM}{G:Gh}{D:Nat}{T:VT}{T':Tr aa}
theorem Ld(q:nF G D T T')(t:Tmp):aA (cut (D+1) G.ρ) G.I (jK T t) (aw T' t)/\mw G (.tmp D t) (jK T t).cells (aw T' t).cells:=by
 unfold jK;split;.rename_i v h;exact q t v h
 refine⟨by simp[aA],(iF (by simp) rfl).own G _⟩
theorem acg{ρ:Bx}{I:Im}(h:EP a=some v):aA ρ I v a/\(∀es sz,v=.sl es (some sz)->es=[]/\a=.ai)/\v.cell=true/\v.cells=[v]/\(v=.sl [] (some 0)\/(∃f,v=.fn f [])\/∃b,v=.sc b):=by
 unfold EP at h;split at h
 .cases h;refine⟨?_,?_,rfl,rfl,.inl rfl⟩;.simp only[aA,RP];simp
  simp
 .cases h;refine⟨?_,(by simp),rfl,rfl,.inr (.inl ⟨_,rfl⟩)⟩;simp only[aA];grind[jI]
 split at h;.rename_i q;cases h;refine⟨?_,(by simp),rfl,rfl,.inr (.inr ⟨_,rfl⟩)⟩;simp only[aA];exact⟨trivial,q⟩
 cases h
def aeU{ρ:Bx}{I:Im}:∀{Z9:List aa} {vs:List ae},LZ Z9=some vs->bB ρ I vs Z9/\nN vs Z9/\vs.all ae.cell=true
 |[],vs,h=>by cases h;exact⟨jI.2 rfl,(λ j es sz a e _=>by simp at e),rfl⟩
 |a::Z9,vs,h=>by
  unfold LZ at h;split at h
  .rename_i v l J K;cases h;obtain⟨L,M,h3,_⟩:=acg (ρ:=ρ) (I:=I) J;obtain⟨F,A,q⟩:=aeU (ρ:=ρ) (I:=I) K;refine⟨cf.2 ⟨a,Z9,rfl,L,F⟩,λ j es sz b e e'=>?_,by simp[h3,q]⟩;cases j;.simp_all
   rename_i j;simp at e e';exact A j es sz b e e'
  cases h
theorem RI{ρ:Bx}{I:Im}(h:kx a=some v):aA ρ I v a/\nN v.cells a.cells/\v.fw=false/\v.cells.all ae.cell=true:=by
 unfold kx at h;split at h
 .rename_i cs;split at h;.rename_i l K;cases h;obtain⟨q,F,h3⟩:=aeU (ρ:=ρ) (I:=I) K;exact⟨by simp only[aA];simp_all,F,rfl,h3⟩
  cases h
 obtain⟨q,F,h3,M,L⟩:=acg (ρ:=ρ) (I:=I) h;have A:v.fw=false:=by rcases L with rfl|⟨f,rfl⟩|⟨b,rfl⟩<;>rfl
 have J:=BV q A;refine⟨q,?_,A,by grind⟩;rw[M]at J⊢;intro j es sz b e e';grind[aa.cells]
theorem gq(L:nF G D T T')(F:kJ ng gl G){x:Operand}(h:eC gl T x=some v):
 ∃a,aU ng T' x=some a/\aA (cut (D+1) G.ρ) G.I v a/\rf G D x v.cells a.cells:=by
 cases x with
 |tmp t=>
  simp only[eC,lz]at h;subst h;obtain⟨q,A⟩:=Ld L t;exact⟨_,rfl,q,λ j es sz a e e'=>.inr ⟨t,rfl,A j es sz a e e'⟩⟩
 |const w=>
  simp only[eC]at h;split at h;.rename_i a K;obtain⟨q,A,_⟩:=RI (ρ:=cut (D+1) G.ρ) (I:=G.I) h;exact⟨a,K,q,A.x G D _⟩
  cases h
 |global g=>
  simp only[eC]at h;split at h
  .rename_i cs J;cases h;obtain⟨q,r,A,h3,M⟩:=F g cs J;refine⟨.ptr g 0,?_,?_,(iF (by simp) rfl).x G D _⟩;.show Bool.rec (motive:=λ _=>Option aa) none (some (.ptr g 0)) (Nat.ble (g+1) ng)=_;rw[b9 q]
   simp only[aA];grind
  cases h
 |func f=>
  simp only[eC,lz]at h;subst h;exact⟨.func f [] [],rfl,by simp only[aA];grind[jI],(iF (by simp) rfl).x G D _⟩
theorem UM(A:nF G D T T')(q:kJ ng gl G):∀{l:List Operand} {vs:List ae},As gl T l=some vs->∃Z9,jo ng T' l=some Z9/\bB (cut (D+1) G.ρ) G.I vs Z9
 |[],vs,h=>by cases h;exact⟨[],rfl,jI.2 rfl⟩
 |x::l,vs,h=>by
  unfold As at h;split at h;.rename_i a r J F;cases h;obtain⟨b,M,L,_⟩:=gq A q J;obtain⟨bs,h3,K⟩:=UM A q F;grind[cf,zr,jo]
  cases h
def uL(G:Gh)(D:Nat):List (Nat×Operand)->List (Nat×ae)->List (Nat×aa)->Prop
 |[],[],[]=>True
 |(i,x)::ps,(q,v)::vs,(h,a)::Z9=>q=i/\h=i/\aA (cut (D+1) G.ρ) G.I v a/\rf G D x v.cells a.cells/\uL G D ps vs Z9
 |_,_,_=>False
def PZ(A:nF G D T T')(q:kJ ng gl G):∀{l:List (Nat×Operand)} {vs:List (Nat×ae)},AV gl T l=some vs->∃Z9,my ng T' l=some Z9/\uL G D l vs Z9
 |[],vs,h=>by cases h;exact⟨[],rfl,trivial⟩
 |(i,x)::l,vs,h=>by
  unfold AV at h;split at h;.rename_i a r J F;cases h;obtain⟨b,N,M,h3⟩:=gq A q J;obtain⟨bs,L,K⟩:=PZ A q F;refine⟨(i,b)::bs,?_,rfl,rfl,M,h3,K⟩;unfold my;rw[N,L]
  cases h
theorem WK{ρ:Bx}{I:Im}:∀{vs:List ae} {Z9 bs:List aa},sB vs=some Z9->bB ρ I vs bs->bs=Z9
 |[],Z9,bs,h,k=>by cases h;exact jI.1 k
 |.sc a::vs,Z9,bs,h,k=>by
  simp only[sB]at h;split at h;.rename_i l A;cases h;obtain⟨c,cs,rfl,q,F⟩:=cf.1 k;simp only[aA]at q;rw[q.1,WK A F]
  cases h
 |.ptr _ _ _::_,_,_,h,_=>by simp[sB]at h
 |.rp _ _::_,_,_,h,_=>by simp[sB]at h
 |.sl _ _::_,_,_,h,_=>by simp[sB]at h
 |.ms _ _ _ _::_,_,_,h,_=>by simp[sB]at h
 |.fn _ _::_,_,_,h,_=>by simp[sB]at h
 |.agg _::_,_,_,h,_=>by simp[sB]at h
 |.aL _::_,_,_,h,_=>by simp[sB]at h
theorem ID{ρ:Bx}{I:Im}(h:rj v=some a)(k:aA ρ I v b):b=a:=by
 cases v with
 |sc c=>simp only[rj,lz]at h;simp only[aA]at k;grind
 |agg cs=>
  simp only[rj]at h;split at h;.rename_i l q;cases h;simp only[aA]at k;grind[WK]
  cases h
 |_=>simp[rj]at h
def ado{ρ:Bx}{I:Im}(h:AJ v=some n)(k:aA ρ I v b):∃kd,b=.int kd (.ofNat n):=by
 unfold AJ at h;split at h;.cases h;simp only[aA]at k;exact⟨_,k.1⟩
 cases h
def kO(ρ:Bx)(I:Im)(v:ae)(a:aa):Prop:=aA ρ I v a/\nN v.cells a.cells
theorem Fs{ρ:Bx}{I:Im}(h:kx a=some v):kO ρ I v a:=⟨(RI h).1,(RI (ρ:=ρ) (I:=I) h).2.1⟩
variable{ρ:Bx}{I:Im}
theorem awE{q:BinOp}{x:ae}(h:dn P q t x y=some v)(F:aA ρ I x a)(A:aA ρ I y b):∃r,cV P q t a b=some r/\kO ρ I v r:=by grind[dn,ID,Fs]
theorem ajt{q:UnOp}{x:ae}(h:vg q x=some v)(A:aA ρ I x a):∃r,Ee q a=some r/\kO ρ I v r:=by grind[vg,ID,Fs]
theorem aje{d:TypeId}{x:ae}(h:Ly P s d x=some v)(q:aA ρ I x a):∃r,rh P s d (some a)=some r/\kO ρ I v r:=by grind[Ly,ID,Fs]
theorem ajd{x:ae}(h:CU P t x ix=some v)(A:aA ρ I x a)(q:aA ρ I ix b):∃r,yp P t a b=some r/\kO ρ I v r:=by grind[CU,ID,Fs]
def amd{c x:ae}{A:aa}(h:yY c x y=some v)(q:aA ρ I c A)(J:aA ρ I x a)(F:aA ρ I y b):∃r,vJ (some A) (some a) (some b)=some r/\kO ρ I v r:=by
 unfold yY at h;split at h;.cases h;simp only[aA]at q;rw[q.1];exact⟨a,rfl,nu J,pw⟩
 .cases h;simp only[aA]at q;rw[q.1];exact⟨b,rfl,nu F,pw⟩
 cases h
def arP{x:ae}(h:wR x=some v)(q:aA ρ I x a):∃r,vM (some a)=some r/\kO ρ I v r:=by
 unfold wR at h;split at h;.cases h;have:=q;simp only[aA]at this;obtain⟨u,_,rfl⟩:=this;exact⟨_,rfl,q,iF (by simp) rfl⟩
 .cases h;have:=q;simp only[aA]at this;obtain⟨u,o,r,rfl,_⟩:=this;exact⟨_,rfl,q,iF (by simp) rfl⟩
 .cases h;have:=q;simp only[aA]at this;obtain⟨bs,rfl,_⟩:=this;exact⟨_,rfl,q,iF (by simp) rfl⟩
 cases h
theorem ae4(h:(n==0)=false):Nat.beq n 0=false:=by
 cases n;.simp at h
 rename_i n;rfl
def ago{f o:Nat}(h:Ea P s f=some o):gv P s (.ptr u off) f=some (.ptr u (off+o)):=by
 unfold Ea at h;split at h
 .rename_i fs F;split at h
  .rename_i J q;split at h
   .rename_i i hi;split at h;.rename_i A;cases h;simp only[gv,F,q,hi,ae4 A]
    cases h
   cases h
  cases h
 cases h
theorem awl{f:Nat}{x:ae}(h:Ft P s f x=some v)(q:aA ρ I x a):∃r,xQ P s f (some a)=some r/\kO ρ I v r:=by
 unfold Ft at h;split at h
 .split at h;.rename_i o A;cases h;simp only[aA]at q;obtain⟨u,K,rfl⟩:=q;exact⟨_,ago A,by simp only[aA];grind,iF (by simp) rfl⟩
  cases h
 .split at h;.rename_i o A;cases h;simp only[aA]at q;obtain⟨u,b,r,rfl,J,h3,F⟩:=q;exact⟨_,ago A,by simp only[aA];grind,iF (by simp) rfl⟩
  cases h
 cases h
theorem DH{q:Nat}(h:nC P t=some (sz,q)):∃e i,P.underlying t=some (.slice e)/\P.info? e=some i/\i.size=sz/\i.bytes=q/\Nat.beq i.size 0=false/\0<sz:=by grind[nC,ae4]
theorem ZF(h:Ae P t=some (n,sz)):∃e i,P.underlying t=some (.array n e)/\P.info? e=some i/\i.size=sz:=by grind[Ae]
def azd(h:RP I (.sl es none) b){e:List ae}(hi:es[i]? =some e):
 ∃v off q r sz,b=.slice v off es.length q/\I v=some r/\(es=[]\/q=none/\r.sz=sz)/\off+es.length*sz<=r.cells.length/\bR I sz es ((r.cells.drop off).take (es.length*sz)):=by
 simp only[RP]at h;rcases h with⟨h,_⟩|h
 .simp_all
 .exact h
theorem av3{x:ae}(h:HS P t x ix=some v)(F:aA ρ I x a)(hy:aA ρ I ix b):∃r,iM P t a b=some r/\kO ρ I v r:=by
 unfold HS at h;split at h;.cases h
 rename_i i hi;obtain⟨kd,rfl⟩:=ado hi hy;split at h
 .rename_i es o;split at h
  .rename_i sz ab e J Z;split at h
   .rename_i K;cases h;obtain⟨te,A,M,L,h3,h4,_⟩:=DH J;obtain⟨u,off,ac,r,N,rfl,k1,_,k3,k4⟩:=azd (show RP I (.sl es none) a from F) Z;have Y:=(mR.1 Z).1;obtain⟨g1,g2,g3⟩:=anS k4 Z;have S:N=sz:=by omega
    subst S;refine⟨.ptr u (off+i*A.size),?_,?_,iF (by simp) rfl⟩;.simp only[iM,M,L];rw[b9 Y]
    rw[h3];simp only[aA];grind[List.drop_take,List.drop_drop]
   cases h
  cases h
 .rename_i d k len sz;split at h
  .rename_i N ab J;split at h
   .rename_i K;cases h;obtain⟨te,A,M,L,h3,h4,_⟩:=DH J;simp only[aA]at F;obtain⟨u,k1,rfl⟩:=F;refine⟨.ptr u (0+i*A.size),?_,?_,iF (by simp) rfl⟩;.simp only[iM,M,L];rw[b9 K.1]
    rw[h3,K.2];simp only[aA];simp_all
   cases h
  cases h
 .rename_i q;split at h
  .rename_i n sz J;split at h
   .rename_i K;cases h;obtain⟨te,A,M,L,h3⟩:=ZF J;simp only[aA]at F;obtain⟨u,k1,rfl⟩:=F;refine⟨.ptr u (q+i*A.size),?_,?_,iF (by simp) rfl⟩;.simp only[iM,M,L];rw[b9 K]
    rw[h3];simp only[aA];grind
   cases h
  cases h
 .rename_i q;split at h
  .rename_i n sz J;split at h
   .rename_i K;cases h;obtain⟨te,A,M,L,h3⟩:=ZF J;simp only[aA]at F;obtain⟨u,o,r,rfl,k2,k3,k4⟩:=F;refine⟨.ptr u (o+q+i*A.size),?_,?_,iF (by simp) rfl⟩;.simp only[iM,M,L];rw[b9 K]
    rw[h3];simp only[aA];grind
   cases h
  cases h
 cases h
theorem aug{x:ae}(h:Lo P t x=some v)(q:aA ρ I x a):∃r,dD P t a=some r/\kO ρ I v r:=by
 unfold Lo at h;split at h
 .rename_i es o;split at h
  .rename_i A;cases h;unfold tD at A;split at A
   .rename_i e F;have q:RP I (.sl es none) a:=q;have J:∀n:Nat,kO ρ I (.sc (.int .i64 n)) (.int .i64 n):=λ n=>⟨by simp only[aA];exact⟨trivial,rfl⟩,iF (by simp) rfl⟩
    simp only[RP]at q;rcases q with⟨rfl,rfl|rfl⟩|⟨_,_,_,_,_,rfl,_⟩
    .exact⟨_,by simp only[dD,F],J 0⟩
    .exact⟨_,by simp only[dD,F],J 0⟩
    exact⟨_,by simp only[dD,F],J _⟩
   cases A
  cases h
 .rename_i d k n sz;split at h
  .rename_i A;cases h;unfold tD at A;split at A;.rename_i e F;simp only[aA]at q;obtain⟨u,_,rfl⟩:=q;exact⟨_,by simp only[dD,F];rfl,by simp only[aA];exact⟨trivial,rfl⟩,iF (by simp) rfl⟩
   cases A
  cases h
 .split at h;.rename_i r J;simp only[aA]at q;grind[Fs]
  cases h
 cases h
def atN{x:ae}(h:sd i x=some v)(q:aA ρ I x a):∃r,yI i (some a)=some r/\kO ρ I v r:=by
 unfold sd at h;split at h
 .rename_i vs;split at h
  .rename_i w A;cases h;simp only[aA]at q;rcases q with rfl|⟨bs,rfl,J⟩
   .simp at A
   obtain⟨b,h3,F⟩:=Fm J A;exact⟨b,h3,nu F,pw⟩
  cases h
 cases h
theorem ayO(P:Program)(ty:TypeId)(v:ae):yg P ty v=v\/(v=.sl [] (some 0)/\∃sz,yg P ty v=.sl [] (some sz)):=by grind[yg]
def jg.aAB{s:bX}(h:jg G s es 0 a):es=[]/\a=.ai:=by
 rcases h with h|⟨_,_,_,_,_,_,h,_⟩
 .exact h
 omega
theorem adn{ty:TypeId}{x:Operand}(h:aA ρ I v a)(F:rf G D x v.cells a.cells):aA ρ I (wI P tk ty v) a/\(tk=false->nN (wI P tk ty v).cells a.cells)/\rf G D x (wI P tk ty v).cells a.cells:=by
 unfold wI;cases tk;.exact⟨nu h,λ _=>pw,pw.x G D x⟩
 show aA ρ I (yg P ty v) a/\(true=false->_)/\rf G D x (yg P ty v).cells a.cells;rcases ayO P ty v with e|⟨e,sz,e'⟩
 .simp_all
 rw[e'];subst e;refine⟨h,λ k=>(by cases k),λ j es A b q J=>.inl ?_⟩;cases j
 .simp[ae.cells]at q;rcases F 0 [] 0 b rfl J with k|⟨t,_,k⟩
  .grind
  exact⟨q.1,k.aAB.2⟩
 rename_i j;simp[ae.cells]at q
end
section
variable{pl:List (Nat×Nat)}{v:ae}
variable{P:Program}{ng:Nat}{gl:aM}{G:Gh}{D:Nat}{T:VT}{T':Tr aa}{ρ:Bx}{I:Im}
theorem aAq:∀{Z9:List aa} {vs:List ae},qP Z9 vs=true->bB ρ I vs Z9/\nN vs Z9/\vs.all ae.cell=true:=by
 intro Z9 vs h;induction Z9 generalizing vs with
 |nil=>
  cases vs;.exact⟨jI.2 rfl,(λ j es sz a e _=>by simp at e),rfl⟩
  rename_i v vs;cases v<;>simp[qP]at h
 |cons a Z9 L=>
  cases vs;.cases a<;>simp[qP]at h
  rename_i v vs
  have A:qP Z9 vs=true/\aA ρ I v a/\(∀es sz,v=.sl es (some sz)->es=[]/\a=.ai)/\v.cell=true:=by
   unfold qP at h;split at h;.grind
   .rename_i y q;cases y;cases q;refine⟨h,?_,?_,rfl⟩;.simp[aA,RP]
    simp
   .rename_i y q;cases y;cases q;simp only[aR,beq_iff_eq]at h;refine⟨h.2,?_,(by simp),rfl⟩;simp only[aA];exact⟨by rw[h.1],rfl⟩
   .rename_i y q;cases y;cases q;simp only[aR,Ek]at h;refine⟨h.2,?_,(by simp),rfl⟩;simp only[aA];exact⟨by simp_all,rfl⟩
   .rename_i y q;cases y;cases q;simp only[aR,Ek]at h;refine⟨h.2,?_,(by simp),rfl⟩;simp only[aA];exact⟨by rw[h.1],rfl⟩
   .rename_i y q;cases y;cases q;exact⟨h,by simp only[aA];exact⟨trivial,rfl⟩,(by simp),rfl⟩
   .rename_i y q;cases y;cases q;exact⟨h,by simp only[aA];exact⟨trivial,rfl⟩,(by simp),rfl⟩
   cases h
  obtain⟨K,J,Y,F⟩:=A;obtain⟨S,N,M⟩:=L K;refine⟨cf.2 ⟨a,Z9,rfl,J,S⟩,λ j es sz b e e'=>?_,by simp[F,M]⟩;cases j;.simp_all
  rename_i j;simp at e e';exact N j es sz b e e'
theorem aaH(h:C9 a=true):a=.agg a.cells:=by cases a<;>simp_all [C9,aa.cells]
def apK(h:C9 a=false):a.cells=[a]:=by cases a<;>simp_all [C9,aa.cells]
theorem MR{z:ae}(h:qZ P t=some z):∃a,ig P t=some a/\aA ρ I z a/\bB ρ I z.cells a.cells/\nN z.cells a.cells/\z.fw=false/\z.cells.all ae.cell=true/\(∀cs,z=.agg cs->a=.agg a.cells):=by
 unfold qZ at h;split at h
 .rename_i a cs F N;cases y:qP a.cells cs;.grind
  obtain⟨K,J,h3⟩:=aAq (ρ:=ρ) (I:=I) y;cases q:C9 a
  .rw[y,q]at h;have M:=apK q;split at h;.rename_i e;cases e
   .cases h;simp only[ug,Vr,Vs]at h3;have A:z.cells=[z]:=by cases z<;>simp_all [ae.cell,ae.cells]
    have L:z.fw=false:=by cases z<;>simp_all [ae.cell,ae.fw]
    grind[cf,ae.cell]
   cases h
  rw[y,q]at h;cases h;refine⟨a,F,?_,K,J,rfl,h3,λ cs _=>aaH q⟩;simp only[aA];grind[aaH]
 cases h
def PU(P:Program)(fs:List Field)(i:Nat):Option (Nat×Nat):=
 match fs[i]?with
 |some f=>(match P.info? f.type with|some j=>some (f.offset,j.size)|none=>none)
 |none=>none
theorem afl:∀{fs:List Field} {pl:List (Nat×Nat)},Kv P fs=some pl->(∀i:Nat,PU P fs i=pl[i]?)/\fs.all (λ (f:Field)=>(P.info? f.type).isSome)=true
 |[],pl,h=>by cases h;grind[PU]
 |f::fs,pl,h=>by
  unfold Kv at h;split at h;.rename_i i l hi q;cases h;obtain⟨A,y⟩:=afl q;grind[PU]
  cases h
theorem aic{q:Nat->Option (Nat×Nat)}(S:∀i,q i=pl[i]?)(Q:Nat->aS->Nat->aa->Prop):
 ∀{ps:List (Nat×Operand)} {vs:List (Nat×ae)} {Z9:List (Nat×aa)} {cells cs:List ae} {acells:List aa},vs.length=ps.length->Z9.length=ps.length->
  (∀(n i:Nat) (v:ae),vs[n]? =some (i,v)->∃a,Z9[n]? =some (i,a)/\aA ρ I v a/\∀o M,pl[i]? =some (o,M)->∀(j:Nat) es sz c,v.cells[j]? =some (.sl es (some sz))->a.cells[j]? =some c->Q (o+j) es sz c)->
  bB ρ I cells acells->cells.all ae.cell=true->(∀(j:Nat) es sz c,cells[j]? =some (.sl es (some sz))->acells[j]? =some c->Q j es sz c)->kY pl cells vs=some cs->
  ∃A,fill q acells Z9=some A/\bB ρ I cs A/\cs.all ae.cell=true/\∀(j:Nat) es sz c,cs[j]? =some (.sl es (some sz))->A[j]? =some c->Q j es sz c
 |[],[],[],cells,cs,acells,_,_,_,L,hc,hq,h=>by cases h;exact⟨acells,rfl,L,hc,hq⟩
 |(k,x)::ps,(i,v)::vs,Z9,cells,cs,acells,K,y,hp,L,hc,hq,h=>by
  obtain⟨a,Y,Z,ad⟩:=hp 0 i v rfl;cases Z9;.simp at Y
  rename_i a0 Z9;simp at Y;subst Y;simp only[kY]at h;split at h;.cases h
  rename_i off size af;split at h
  .rename_i ht N J;have ab:v.cells.length=size:=by simpa using N
   have J:off+size<=cells.length:=by simpa using J
   have F:=BV Z ht;have ai:=pz F;have ag:=pz L;have ac:=aub Z ht
   have:=aic S Q (ps:=ps) (vs:=vs) (Z9:=Z9) (cells:=cm cells off v.cells) (cs:=cs) (acells:=ep acells off a.cells) (by simpa using K) (by simpa using y)
    (λ n i v e=>hp (n+1) i v (by simpa using e)) (TO L F off)
    (by grind[cm])
    (λ j es sz c e e'=>by grind[cm,ep]) h
   grind[fill,Nat.beq_refl,Nat.ble_eq_true_of_le]
  cases h
 |[],_::_,_,_,_,_,K,_,_,_,_,_,_=>by simp at K
 |_::_,[],_,_,_,_,K,_,_,_,_,_,_=>by simp at K
 |[],[],_::_,_,_,_,_,y,_,_,_,_,_=>by simp at y
def uL.len:∀{ps:List (Nat×Operand)} {vs:List (Nat×ae)} {Z9:List (Nat×aa)},uL G D ps vs Z9->vs.length=ps.length/\Z9.length=ps.length
 |[],[],[],_=>⟨rfl,rfl⟩
 |(_,_)::ps,(_,_)::vs,(_,_)::Z9,h=>by obtain⟨_,_,_,_,h⟩:=h;have:=uL.len h;simp[this.1,this.2]
 |[],_::_,_,h=>h.elim
 |[],[],_::_,h=>h.elim
 |_::_,[],_,h=>h.elim
 |_::_,_::_,[],h=>h.elim
def uL.get:∀{ps:List (Nat×Operand)} {vs:List (Nat×ae)} {Z9:List (Nat×aa)},uL G D ps vs Z9->∀{n i:Nat} {v:ae},vs[n]? =some (i,v)->
 ∃x a,ps[n]? =some (i,x)/\Z9[n]? =some (i,a)/\aA (cut (D+1) G.ρ) G.I v a/\rf G D x v.cells a.cells
 |[],[],[],_,n,_,_,e=>by simp at e
 |(_,x)::ps,(_,_)::vs,(_,a)::Z9,h,n,i,v,e=>by
  obtain⟨rfl,rfl,y,q,h⟩:=h;cases n;.simp at e;obtain⟨rfl,rfl⟩:=e;exact⟨x,a,rfl,rfl,y,q⟩
  rename_i n;simp at e;simpa using uL.get h e
 |[],_::_,_,h,_,_,_,_=>h.elim
 |[],[],_::_,h,_,_,_,_=>h.elim
 |_::_,[],_,h,_,_,_,_=>h.elim
 |_::_,_::_,[],h,_,_,_,_=>h.elim
def ur(pl:List (Nat×Nat)):List (Nat×Operand)->Nat->Option Nat
 |[],_=>none
 |(i,.tmp t)::ps,s=>if t=s then(pl[i]?).map (·.1)else ur pl ps s
 |_::ps,s=>ur pl ps s
theorem Qg:∀{ps:List (Nat×Operand)} {n i:Nat} {t:Tmp},ps[n]? =some (i,.tmp t)->t∈nT ps
 |[],n,_,_,e=>by simp at e
 |(j,x)::ps,n,i,t,e=>by
  simp only[nT,jA];cases n;.grind[jB]
  rename_i n;simp at e;exact .inr (Qg e)
theorem HX:∀{ps:List (Nat×Operand)} {n i o z:Nat} {t:Tmp},BK (nT ps)=true->ps[n]? =some (i,.tmp t)->pl[i]? =some (o,z)->ur pl ps t=some o
 |[],n,_,_,_,_,_,e,_=>by simp at e
 |(j,x)::ps,n,i,o,z,t,h,e,q=>by
  cases n;.grind[ur]
  rename_i n;simp at e;cases x with
  |tmp s=>
   simp only[nT,jB,Vt,BK,aR,Ia]at h;have y:s≠t:=by grind[Qg]
   simp only[ur,aj y];exact HX h.2 e q
  |const w=>show ur pl ps t=some o;exact HX (ps:=ps) (by simpa[nT,jB]using h) e q
  |global g=>show ur pl ps t=some o;exact HX (ps:=ps) (by simpa[nT,jB]using h) e q
  |func f=>show ur pl ps t=some o;exact HX (ps:=ps) (by simpa[nT,jB]using h) e q
def PR(G:Gh)(D:Nat)(src:List Tmp)(v:ae)(a:aa):Prop:=aA (cut (D+1) G.ρ) G.I v a/\∃g:Nat->Nat->Option Nat,∀(j:Nat) es sz c,v.cells[j]? =some (.sl es (some sz))->a.cells[j]? =some c->(es=[]/\c=.ai)\/∃t∈src,∃h,g t h=some j/\jg G (.tmp D t h) es sz c
def kO.pr(h:kO (cut (D+1) G.ρ) G.I v a)(src:List Tmp):PR G D src v a:=⟨h.1,λ _ _=>none,λ j es sz c e e'=>.inl (h.2 j es sz c e e')⟩
theorem rf.pr{x:Operand}(q:aA (cut (D+1) G.ρ) G.I v a)(h:rf G D x v.cells a.cells):PR G D (jB x) v a:=
 ⟨q,λ _ j=>some j,λ j es sz c e e'=>by
  rcases h j es sz c e e' with k|⟨t,rfl,k⟩
  .exact .inl k
  grind[jB]⟩
theorem VN{ps:List (Nat×Operand)}{vs:List (Nat×ae)}{Z9:List (Nat×aa)}(F:uL G D ps vs Z9)(hd:tk=true->BK (nT ps)=true)
 (h:BU P t (cond tk vs (vs.map λ p=>(p.1,bD p.2)))=some v):∃a,lP P t (some Z9)=some a/\PR G D (cond tk (nT ps) []) v a:=by
 unfold BU at h;split at h
 .rename_i z pl y;split at h
  .rename_i cs hf;cases h;unfold OV at y;split at y
   .rename_i z' fs Y Z;split at y
    .rename_i l hl;cases y;obtain⟨J,L,_,z3,K,_,z6,z7⟩:=MR (ρ:=cut (D+1) G.ρ) (I:=G.I) Y;obtain⟨p1,p2⟩:=afl hl;have ab:∀i,C0 P fs i=pl[i]? :=λ i=>p1 i
     obtain⟨l1,l2⟩:=F.len
     have N:=aic (ρ:=cut (D+1) G.ρ) (I:=G.I) ab
      (λ j es sz c=>(es=[]/\c=.ai)\/(tk=true/\∃t∈nT ps,∃A,(ur pl ps t).map (·+A)=some j/\jg G (.tmp D t A) es sz c))
      (ps:=ps) (vs:=cond tk vs (vs.map λ p=>(p.1,bD p.2))) (Z9:=Z9) (cells:=z) (cs:=cs) (acells:=J.cells)
      (by grind) l2
      (λ n i v e=>by
       cases tk with
       |true=>
        obtain⟨x,a,e1,e2,e3,e4⟩:=F.get e;refine⟨a,e2,e3,λ o M ho j es sz c k k'=>?_⟩;rcases e4 j es sz c k k' with q|⟨t,rfl,q⟩
        .exact .inl q
        refine .inr ⟨rfl,t,Qg e1,j,?_,q⟩;rw[HX (hd rfl) e1 ho];rfl
       |false=>
        simp only[Nt,bM]at e;cases ew:vs[n]?;.grind
        rename_i w;rw[ew]at e;simp only[lA,lz,Ei]at e;obtain⟨rfl,rfl⟩:=e;obtain⟨x,a,e1,e2,e3,e4⟩:=F.get (show vs[n]? =some (w.1,w.2)from ew);refine⟨a,e2,nu e3,λ o M ho j es sz c k k'=>.inl (pw j es sz c k k')⟩)
      z3 z6 (λ j es sz c e e'=>.inl (K j es sz c e e')) hf
     obtain⟨ag,k1,k2,k3,k4⟩:=N;refine⟨.agg ag,?_,?_,λ t A=>(ur pl ps t).map (·+A),λ j es sz c e e'=>?_⟩;.simp only[lP,L,Z,p2,k1]
     .simp only[aA];grind
     rcases k4 j es sz c e e' with q|⟨rfl,q⟩
     .exact .inl q
     exact .inr q
    cases y
   .rename_i z' m e Y Z;split at y
    .rename_i ie ad;cases y;obtain⟨J,L,z2,z3,K,_,z6,z7⟩:=MR (ρ:=cut (D+1) G.ρ) (I:=G.I) Y;obtain⟨l1,l2⟩:=F.len
     have hn:(cond tk vs (vs.map λ p=>(p.1,bD p.2)))=[]:=by
      cases hc:(cond tk vs (vs.map λ p=>(p.1,bD p.2)));.rfl
      rename_i q qs;grind[kY]
     rw[hn]at hf;cases hf;have hv:vs=[]:=by cases tk<;>simpa using hn
     subst hv;have ha:Z9=[]:=by grind
     subst ha;have S:=z7 _ rfl;obtain⟨ac,af⟩:∃ac,J=.agg ac:=⟨_,S⟩;subst af;refine⟨.agg ac,?_,z2,λ _ _=>none,λ j es sz c e e'=>.inl (K j es sz c e e')⟩;simp only[lP,L,Z,ad]
    cases y
   cases y
  cases h
 .cases h
def aid:∀{vs:List ae} {bs:List aa},bB ρ I vs bs->bB ρ I (vs.map bD) bs
 |[],_,h=>h
 |v::vs,_,h=>by obtain⟨c,cs,rfl,y,q⟩:=cf.1 h;exact cf.2 ⟨c,cs,rfl,nu y,aid q⟩
theorem alO(F:nF G D T T')(y:kJ ng gl G){tk:Bool}{ty:TypeId}{o:Op}(h:lG P gl tk ty T o=some v):∃a,kP P ng T' o=some a/\PR G D (lh tk o) v a:=by
 unfold lG at h;split at h
 .split at h
  .rename_i x w hw;cases h;obtain⟨a,J,q,h3⟩:=gq F y hw;obtain⟨Y,m2,m3⟩:=adn (P:=P) (tk:=tk) (ty:=ty) q h3;refine⟨a,J,?_⟩;cases tk;.exact kO.pr ⟨Y,m2 rfl⟩ _
   exact rf.pr Y m3
  cases h
 .split at h
  .rename_i x w hw;cases h;obtain⟨a,J,q,h3⟩:=gq F y hw;obtain⟨Y,m2,m3⟩:=adn (P:=P) (tk:=tk) (ty:=ty) q h3;refine⟨a,J,?_⟩;cases tk;.exact kO.pr ⟨Y,m2 rfl⟩ _
   exact rf.pr Y m3
  cases h
 .split at h;.rename_i c a b hc A M;obtain⟨c',J,q,_⟩:=gq F y hc;obtain⟨N,h3,L,_⟩:=gq F y A;obtain⟨Z,h5,h6,_⟩:=gq F y M;obtain⟨r,S,K⟩:=amd h q L h6;refine⟨r,?_,K.pr _⟩;grind[kP]
  cases h
 .rename_i t ps;split at h
  .rename_i l hl;obtain⟨Z9,J,q⟩:=PZ F y hl;split at h
   .split at h;.rename_i hn;obtain⟨a,h3,L⟩:=VN (P:=P) (tk:=true) q (λ _=>hn) h;exact⟨a,by grind[kP],L⟩
    cases h
   obtain⟨a,h3,L⟩:=VN (P:=P) (tk:=false) q (λ e=>by cases e) h;exact⟨a,by grind[kP],L⟩
  cases h
 .split at h;.rename_i a A;obtain⟨N,J,q,_⟩:=gq F y A;obtain⟨r,S,K⟩:=arP h q;exact⟨r,by grind[kP],K.pr _⟩
  cases h
 .split at h;.rename_i a b A M;obtain⟨N,J,q,_⟩:=gq F y A;obtain⟨Z,h3,L,_⟩:=gq F y M;obtain⟨r,S,K⟩:=awE h q L;exact⟨r,by grind[kP,xX],K.pr _⟩
  cases h
 .split at h;.rename_i a A;obtain⟨N,J,q,_⟩:=gq F y A;obtain⟨r,S,K⟩:=ajt h q;exact⟨r,by grind[kP,yw],K.pr _⟩
  cases h
 .split at h;.rename_i a A;obtain⟨N,J,q,_⟩:=gq F y A;obtain⟨r,S,K⟩:=aje h q;exact⟨r,by grind[kP],K.pr _⟩
  cases h
 .rename_i f0 ab;split at h
  .rename_i b M;cases h;obtain⟨bs,J,q⟩:=UM F y M;refine⟨.func f0 [] bs,?_,kO.pr ⟨?_,iF (by simp) rfl⟩ _⟩;.simp only[kP,N2,J];rfl
   simp only[aA];exact⟨bs,rfl,aid q⟩
  cases h
 .split at h;.rename_i a A;obtain⟨N,J,q,_⟩:=gq F y A;obtain⟨r,S,K⟩:=awl h q;exact⟨r,by grind[kP],K.pr _⟩
  cases h
 .split at h;.rename_i a b A M;obtain⟨N,J,q,_⟩:=gq F y A;obtain⟨Z,h3,L,_⟩:=gq F y M;obtain⟨r,S,K⟩:=av3 h q L;exact⟨r,by grind[kP,zd],K.pr _⟩
  cases h
 .split at h;.rename_i a b A M;obtain⟨N,J,q,_⟩:=gq F y A;obtain⟨Z,h3,L,_⟩:=gq F y M;obtain⟨r,S,K⟩:=ajd h q L;exact⟨r,by grind[kP,yB],K.pr _⟩
  cases h
 .split at h;.rename_i a A;obtain⟨N,J,q,_⟩:=gq F y A;obtain⟨r,S,K⟩:=atN h q;exact⟨r,by grind[kP],K.pr _⟩
  cases h
 .split at h;.rename_i a A;obtain⟨N,J,q,_⟩:=gq F y A;obtain⟨r,S,K⟩:=aug h q;exact⟨r,by grind[kP,wm],K.pr _⟩
  cases h
 .split at h
  .rename_i a b A M;obtain⟨N,J,q,_⟩:=gq F y A;obtain⟨Z,h3,L,_⟩:=gq F y M;unfold DM at h;split at h;.cases h;simp only[aA]at q L;obtain⟨rfl,_⟩:=q;obtain⟨rfl,_⟩:=L;refine⟨_,by simp only[kP,wm,J,h3];rfl,⟨by simp[aA,lX],λ _ _=>none,λ j es sz c e _=>?_⟩⟩;grind[ae.cells]
   cases h
  cases h
 .split at h
  .rename_i a b A M;obtain⟨N,J,q,_⟩:=gq F y A;obtain⟨Z,h3,L,_⟩:=gq F y M;unfold BJ at h;split at h;.cases h;simp only[aA]at q L;obtain⟨rfl,_⟩:=q;obtain⟨rfl,_⟩:=L;refine⟨_,by simp only[kP,wm,J,h3];rfl,⟨by simp[aA,lX],λ _ _=>none,λ j es sz c e _=>?_⟩⟩;grind[ae.cells]
   cases h
  cases h
 cases h
end
section
variable{G':Gh}{d:Option Tmp}{s:bX}{v:ae}{φ:bX->Option bX}
variable{P:Program}{ng:Nat}{gl:aM}{G:Gh}{D:Nat}{T:VT}{T':Tr aa}{st:aq}{H:ah}
def ja:fq->Nat->Nat->Prop
 |.clean,_,_=>False
 |.box d k,d',k'=>d'=d/\k'=k
 |.all,_,_=>True
def qq:Nat->Prop:=λ _=>False
def D6:pj->Option Tmp->Nat->Prop
 |.new true,d,k=>d=some k
 |_,_,_=>False
def rV(D:Nat):bX->Prop
 |.tmp d _ _=>d<D
 |.box _ _ _=>False
 |.up _=>True
structure cw (D:Nat) (G:Gh) (st:aq) (H:ah) (G':Gh) (st':aq) (H':ah) (tch:Nat->Nat->Prop) (nk:Nat->Prop):Prop where
 im:cu G.I G'.I
 mh:∀d k,d<D->G'.ρ d k=G.ρ d k
 nq:∀k,¬nk k->G'.ρ D k=G.ρ D k
 live:∀d k u,(bE st' d k).isSome=true->G'.ρ d k=some u->u<H.next->(bE st d k).isSome=true/\G.ρ d k=some u
 next:H.next<=H'.next
 rows:∀u,u<H.next->H'.objs.get u=H.objs.get u\/∃d k,tch d k/\(bE st d k).isSome=true/\G.ρ d k=some u
 sD:∀f s,rV D s->G.own f=some s->G'.own f=some s/\G'.tp f=G.tp f
 uk:st'.up.length=st.up.length
 nJ:∀u r,G'.I u=some r->u<H.next->G.I u=some r
 qM:∀f s,G'.own f=some s->f<H.next->∃s',G.own f=some s'
 aG:∀f,f<H.next->G.own f=none->H'.aG.get f=H.aG.get f
theorem cw.refl(D:Nat)(G:Gh)(st:aq)(H:ah)(tch:Nat->Nat->Prop)(nk:Nat->Prop):cw D G st H G st H tch nk:=⟨cu.refl _,λ _ _ _=>rfl,λ _ _=>rfl,λ _ _ _ y q _=>⟨y,q⟩,be _,λ _ _=>.inl rfl,λ _ _ _ h=>⟨h,rfl⟩,rfl,λ _ _ e _=>e,λ _ s e _=>⟨s,e⟩,λ _ _ _=>rfl⟩
theorem cw.trans{G1 K G3:Gh}{s1 Z Y:aq}{H1 H3:ah}{S N L:Nat->Nat->Prop}{n1 n2 M:Nat->Prop}(a:cw D G1 s1 H1 K Z H2 S n1)(b:cw D K Z H2 G3 Y H3 N n2)(h1:∀d k,S d k->L d k)(h2:∀d k,N d k->L d k)(h3:∀k,n1 k->M k)(h4:∀k,n2 k->M k):cw D G1 s1 H1 G3 Y H3 L M where
 nq:=λ k h=>(b.nq k λ e=>h (h4 k e)).trans (a.nq k λ e=>h (h3 k e))
 im:=a.im.trans b.im
 mh:=λ d k h=>(b.mh d k h).trans (a.mh d k h)
 live:=λ d k u h e q=>by obtain⟨F,y⟩:=b.live d k u h e (dF q a.next);exact a.live d k u F y q
 next:=fX a.next b.next
 rows:=λ u q=>by
  rcases b.rows u (dF q a.next)with e|⟨d,k,F,y,J⟩
  .rw[e];rcases a.rows u q with e|⟨d,k,F,y,J⟩
   .exact .inl e
   grind
  obtain⟨e4,e5⟩:=a.live d k u y J q;grind
 sD:=λ f s h e=>by obtain⟨F,y⟩:=a.sD f s h e;obtain⟨J,e4⟩:=b.sD f s h F;exact⟨J,e4.trans y⟩
 uk:=b.uk.trans a.uk
 nJ:=λ u r e q=>a.nJ u r (b.nJ u r e (dF q a.next)) q
 qM:=λ f s e A=>by obtain⟨s',e'⟩:=b.qM f s e (dF A a.next);exact a.qM f s' e' A
 aG:=λ f A e=>by
  have h2:K.own f=none:=by
   cases y:K.own f;.rfl
   rename_i s;obtain⟨s',e'⟩:=a.qM f s y A;rw[e]at e';cases e'
  rw[b.aG f (dF A a.next) h2,a.aG f A e]
def cw.kV{q:aq}{H':ah}{t y:Nat->Nat->Prop}{n n':Nat->Prop}(a:cw D G st H G' q H' t n)(h:∀d k,t d k->y d k)(F:∀k,n k->n' k):cw D G st H G' q H' y n':={a with nq:=λ k e=>a.nq k λ e'=>e (F k e'),rows:=λ u A=>(a.rows u A).imp id λ ⟨d,k,L,K,J⟩=>⟨d,k,h _ _ L,K,J⟩}
structure Ok (ng:Nat) (gl:aM) (D:Nat) (G:Gh) (T:VT) (T':Tr aa) (st:aq) (H:ah):Prop where
 bN:cn G st H
 tmp:nF G D T T'
 gC:st.up.length=D
 iA:kJ ng gl G
def kJ.mono(h:kJ ng gl G)(k:cu G.I G'.I):kJ ng gl G':=λ g cs e=>by obtain⟨A,r,y,h3,q⟩:=h g cs e;exact⟨A,r,k _ _ y,h3,ED k _ _ q⟩
def eG(G:Gh)(φ:bX->Option bX):Gh:={G with own:=λ f=>(G.own f).bind φ}
def jg.eG{s':bX}{es:aS}(h:jg G s es sz a)(e:φ s=some s'):jg (Abs.eG G φ) s' es sz a:=by
 rcases h with h|⟨v,off,r,L,K,h3,J,F,A,y,q⟩
 .exact .inl h
 refine .inr ⟨v,off,r,L,K,h3,J,F,A,?_,q⟩;show(G.own r.aC).bind φ=some s';rw[y];exact e
def MD.eG(h:MD G H):MD (Abs.eG G φ) H:=λ f s e=>by
 have e:(G.own f).bind φ=some s:=e;cases q:G.own f;.rw[q]at e;cases e
 rename_i s';exact h f s' q
def UD{f:Nat}(h:G.own f=none):(Abs.eG G φ).own f=none:=by show(G.own f).bind φ=none;rw[h];rfl
def xK{f:Nat}(e:(Abs.eG G φ).own f=some s):∃s',G.own f=some s':=by
 have e:(G.own f).bind φ=some s:=e;cases h:G.own f;.rw[h]at e;cases e
 rename_i s';exact⟨s',rfl⟩
def cn.eG(h:cn G st H)(q:∀d k j,φ (.box d k j)=some (.box d k j)):cn (Abs.eG G φ) st H where
 gd:=h.gd
 fJ:=h.fJ
 box:=λ d k cs e=>by obtain⟨u,r,b⟩:=h.box d k cs e;exact⟨u,r,{ref:=b.ref,row:=b.row,rw:=b.rw,sz:=b.sz,aC:=b.aC,mem:=b.mem,im:=b.im,un:=UD b.un,cells:=b.cells,cell:=b.cell,own:=λ j es sz a A y=>(b.own j es sz a A y).eG (q _ _ _)}⟩
 inj:=h.inj
 aC:=h.aC.eG
 lq:=h.lq
def aw5(v:ae):di (di v)=di v:=by cases v<;>rfl
theorem abg(v:ae):bD (bD v)=bD v:=by
 cases v with
 |agg cs=>
  simp only[bD,ko,ae.agg.injEq]
  congr 1
  funext v;exact aw5 v
 |_=>rfl
theorem Ix:∀(l:List Tmp) (T:VT) (i:Nat),lk (gZ l T) i=if i∈l then(lk T i).map bD else lk T i
 |[],T,i=>by simp[gZ]
 |t::l,T,i=>by rw[gZ,Ix l];grind[lk,abg]
theorem Su{T':Tr aa}:aw (cG n T' d a) i=if d=some i/\i<n then a else aw T' i:=by
 cases d;.simp[abJ]
 rename_i d;grind[IJ,yV,Tr.fT]
theorem RT{T:VT}:lk (da n T d v) i=if d=some i/\i<n then some v else lk T i:=by
 cases d;.simp[da]
 rename_i d;grind[da,zo]
def Ex(D:Nat)(src:List Tmp)(dst:Option Tmp)(g:Nat->Nat->Option Nat):bX->Option bX
 |.tmp d i j=>if d=D then(if i∈src then(match dst,g i j with|some t,some h=>some (.tmp D t h)|_,_=>none)else if dst=some i then none else some (.tmp d i j))else some (.tmp d i j)
 |s=>some s
def cw.tmps{g:Nat->Nat->Option Nat}:cw D G st H (eG G (Ex D src dst g)) st H (ja .clean) qq where
 im:=cu.refl _
 mh:=λ _ _ _=>rfl
 nq:=λ _ _=>rfl
 live:=λ d k u h e _=>⟨h,e⟩
 next:=be _
 rows:=λ _ _=>.inl rfl
 sD:=λ f s h e=>by
  refine⟨?_,rfl⟩;show(G.own f).bind _=some s;rw[e];cases s with
  |tmp d i j=>
   have:d<D:=h;simp only[xu,Ex];rw[aj (by omega)]
  |box d k j=>exact h.elim
  |up s=>rfl
 uk:=rfl
 nJ:=λ _ _ e _=>e
 qM:=λ f s e _=>xK e
 aG:=λ _ _ _=>rfl
def fS(n:Nat):Option Tmp->Option Tmp
 |some d=>if d<n then some d else none
 |none=>none
theorem Cp:fS n d=some i↔d=some i/\i<n:=by
 cases d;.simp[fS]
 rename_i d;grind[fS]
def stepT(h:Ok ng gl D G T T' st H)(M:PR G D src v a):
 ∃G',Ok ng gl D G' (da n (gZ src T) dst v) (cG n T' dst a) st H/\cw D G st H G' st H (ja .clean) qq:=by
 obtain⟨L,g,S⟩:=M;refine⟨eG G (Ex D src (fS n dst) g),⟨h.bN.eG λ _ _ _=>rfl,λ i w e=>?_,h.gC,h.iA.mono (cu.refl _)⟩,cw.tmps⟩;rw[RT]at e;rw[Su];split at e
 .rename_i q;cases e;rw[ao q];refine⟨L,λ j es sz c J F=>?_⟩;rcases S j es sz c J F with k|⟨t,K,j',N,k⟩
  .exact .inl k
  refine k.eG ?_;simp only[Ex,ao K,N,jz,Cp.2 q]
 .rename_i q;rw[aj q];rw[Ix]at e;by_cases hi:i∈src
  .rw[ao hi]at e;cases y:lk T i;.rw[y]at e;cases e
   rename_i w';rw[y]at e;simp only[lA,lz]at e;subst e;obtain⟨A,_⟩:=h.tmp i w' y;exact⟨nu A,pw.own _ _⟩
  rw[aj hi]at e;obtain⟨A,Z⟩:=h.tmp i w e;have Y:¬fS n dst=some i:=λ k=>q (Cp.1 k)
  refine⟨A,λ j es sz c J F=>(Z j es sz c J F).eG ?_⟩;simp only[Ex,aj hi,aj Y];split<;>rfl
end
section
variable{cs cs2:List ae}{v:ae}{φ:bX->Option bX}
variable{P:Program}{ng:Nat}{gl:aM}{G:Gh}{D:Nat}{T:VT}{T':Tr aa}{st:aq}{H:ah}
def cY:∀{S:List bI} {d k:Nat} {cs:List ae},b7 S d k=some cs->d<S.length
 |F::S,d,k,cs,h=>by
  unfold b7 at h;split at h;.rename_i e;simp[e]
  have:=cY h;simp;omega
def NV(h:bE st d k=some cs):d<=st.up.length:=by
 unfold bE at h;split at h;.omega
 have:=cY h;omega
theorem wi:∀(S:List bI) (d k:Nat) (cs:List ae),(jv S d k cs).length=S.length
 |[],_,_,_=>rfl
 |F::S,d,k,cs=>by
  unfold jv;split;.simp
  simp[wi S]
theorem BZ:∀(S:List bI) (d k d' k':Nat) (cs:List ae),b7 (jv S d k cs) d' k'=if d'=d/\k'=k then(b7 S d k).map (λ _=>cs)else b7 S d' k'
 |[],d,k,d',k',cs=>by simp[jv,b7]
 |F::S,d,k,d',k',cs=>by
  unfold jv;by_cases h:d=S.length;.grind[b7,Oq]
  rw[aj h];unfold b7;rw[wi];by_cases q:d'=S.length;.grind
  rw[aj q,aj q,aj h];exact BZ S d k d' k' cs
theorem afA:bE (m9 st d k cs) d' k'=if d'=d/\k'=k then(bE st d k).map (λ _=>cs)else bE st d' k':=by grind[m9,bE,Oq,wi,BZ]
theorem amj:bE (oU st d k cs) d' k'=if d'=d/\k'=k then(bE st d k).map (λ _=>cs)else bE st d' k':=by
 have:bE (oU st d k cs) d' k'=bE (m9 st d k cs) d' k':=by unfold m9 oU bE;split<;>rfl
 rw[this,afA]
theorem ahM:(m9 st d k cs).up.length=st.up.length:=by grind[m9,wi]
theorem aej:(oU st d k cs).up.length=st.up.length:=by grind[oU,wi]
theorem cn.put(h:cn G st H){ac2:List aa}{bU:aq}{φ:bX->Option bX}
 (hb:bE st d k=some cs) (A:uW G H d k cs u r) (ad:∀d' k',bE bU d' k'=if d'=d/\k'=k then some cs2 else bE st d' k')
 (M:H2.next=H.next) (N:∀f,H2.aG.get f=H.aG.get f) (S:H2.objs.get u=some {r with cells:=ac2}) (Y:∀v,v≠u->H2.objs.get v=H.objs.get v)
 (hl:ac2.length=r.cells.length) (hc:bB (cut (d+1) G.ρ) G.I cs2 ac2) (ag:cs2.all ae.cell=true) (how:mw (Abs.eG G φ) (.box d k) cs2 ac2)
 (Z:∀d' k' j,(d'≠d\/k'≠k)->φ (.box d' k' j)=some (.box d' k' j)):cn (Abs.eG G φ) bU H2:=by
 have af:∀d' k' q J L,(d'≠d\/k'≠k)->bE st d' k'=some q->uW G H d' k' q J L->J≠u:=by
  rintro d' k' q J L K hg b rfl
  have:=h.inj d' k' d k q cs J hg hb b.ref A.ref;grind
 refine⟨⟨λ v rv e=>?_,λ f mem v rv a b e=>?_,λ f mem a=>by rw[N]at a;rw[M];exact h.gd.mem f mem a⟩,λ v rv e=>?_,λ d' k' q e=>?_,λ d1 k1 d2 k2 c1 c2 v e1 e2 e3 e4=>?_,λ f s e=>?_,λ d k u e=>by rw[M];exact h.lq d k u e⟩
 .rw[M];by_cases F:v=u;.subst F;rw[S]at e;cases e;exact h.wf v r A.row
  rw[Y v F]at e;exact h.wf v rv e
 .rw[N]at a;by_cases F:v=u;.subst F;rw[S]at e;cases e;exact h.gd.aC f mem v r a b A.row
  rw[Y v F]at e;exact h.gd.aC f mem v rv a b e
 .have e:G.I v=some rv:=e;by_cases F:v=u;.subst F;rw[A.im]at e;cases e
  rw[Y v F];exact h.fJ v rv e
 .rw[ad]at e;split at e;.rename_i K;cases e;obtain⟨rfl,rfl⟩:=K;exact⟨u,_,{ref:=A.ref,row:=S,rw:=A.rw,sz:=A.sz,aC:=A.aC,mem:=by rw[N];exact A.mem,im:=A.im,un:=UD A.un,cells:=hc,cell:=ag,own:=how}⟩
  rename_i K;have K:d'≠d\/k'≠k:=by grind
  obtain⟨J,L,b⟩:=h.box d' k' q e;have ac:=af d' k' q J L K e b;exact⟨J,L,{ref:=b.ref,row:=by rw[Y J ac];exact b.row,rw:=b.rw,sz:=b.sz,aC:=b.aC,mem:=by rw[N];exact b.mem,im:=b.im,un:=UD b.un,cells:=b.cells,cell:=b.cell,own:=λ j es sz a x y=>(b.own j es sz a x y).eG (Z _ _ _ K)}⟩
 .have g1:∃c,bE st d1 k1=some c:=by grind
  have g2:∃c,bE st d2 k2=some c:=by grind
  obtain⟨c1,g1⟩:=g1;obtain⟨c2,g2⟩:=g2;exact h.inj d1 k1 d2 k2 c1 c2 v g1 g2 e3 e4
 .obtain⟨h1,mem,h2,h3⟩:=h.aC.eG (φ:=φ) f s e;refine⟨by rw[M];exact h1,mem,by rw[N];exact h2,λ v F=>⟨by rw[M];exact(h3 v F).1,λ rv e=>?_⟩⟩;by_cases ab:v=u;.subst ab;rw[S]at e;cases e;have:=(h3 v F).2 r A.row;simpa[hl]using this
  grind
theorem cw.put{bU:aq}(N:bE st d k=some cs)(L:G.ρ d k=some u)
 (F:∀d' k',bE bU d' k'=if d'=d/\k'=k then some cs2 else bE st d' k') (y:bU.up.length=st.up.length) (J:H2.next=H.next) (A:∀f,H2.aG.get f=H.aG.get f) (M:∀v,v≠u->H2.objs.get v=H.objs.get v) (K:H2.objs.get u=H.objs.get u\/tch d k)
 (q:∀s,rV D s->φ s=some s):cw D G st H (eG G φ) bU H2 tch qq where
 im:=cu.refl _
 mh:=λ _ _ _=>rfl
 nq:=λ _ _=>rfl
 live:=λ d' k' v h e _=>by refine⟨?_,e⟩;grind
 next:=Nat.le_of_eq J.symm
 rows:=λ v _=>by grind
 sD:=λ f s h e=>by refine⟨?_,rfl⟩;show(G.own f).bind φ=some s;rw[e];exact q s h
 uk:=y
 nJ:=λ _ _ e _=>e
 qM:=λ f s e _=>xK e
 aG:=λ f _ _=>A f
theorem nF.step{G':Gh}(h:nF G D T T')(q:kt (cut (D+1) G.ρ) (cut (D+1) G'.ρ))(J:cu G.I G'.I)
 (S:aA (cut (D+1) G'.ρ) G'.I v a) (Y:∀i,fS n dst=some i->mw G' (.tmp D i) v.cells a.cells)
 (K:∀i j es sz c,i∉src->fS n dst≠some i->jg G (.tmp D i j) es sz c->jg G' (.tmp D i j) es sz c):nF G' D (da n (gZ src T) dst v) (cG n T' dst a):=by
 intro i w e;rw[RT]at e;rw[Su];split at e;.grind[Cp]
 .rename_i F;rw[aj F];rw[Ix]at e;by_cases hi:i∈src
  .rw[ao hi]at e;cases y:lk T i;.rw[y]at e;cases e
   rename_i w';rw[y]at e;simp only[lA,lz]at e;subst e;obtain⟨A,_⟩:=h i w' y;exact⟨nu (wW q J _ _ A),pw.own _ _⟩
  rw[aj hi]at e;obtain⟨A,L⟩:=h i w e;exact⟨wW q J _ _ A,λ j es sz c N M=>K i j es sz c hi (λ k=>F (Cp.1 k)) (L j es sz c N M)⟩
theorem abU{b:Bool}(h:Dv P t=some (b,n)):∃d i,P.underlying t=some d/\P.info? t=some i/\CY d=b/\i.size=n:=by grind[Dv]
theorem ahj{l:List ae}(h:qO cs off n=some l):off+n<=cs.length/\l=(cs.drop off).take n:=by grind[qO]
theorem Fq{ρ:Bx}{I:Im}{g:Nat->Option Row}{b:Nat}(h:Cb P t cs off=some (v,n))(hg:g u=some r)(hb:b+cs.length<=r.cells.length)(Y:bB ρ I cs ((r.cells.drop b).take cs.length))(ab:cs.all ae.cell=true):
 ∃a,de P g t (.ptr u (b+off))=some a/\aA ρ I v a/\v.fw=false/\off+n<=cs.length/\v.cells=(cs.drop off).take n/\a.cells=(r.cells.drop (b+off)).take n:=by
 unfold Cb at h;split at h
 .rename_i m J;split at h
  .rename_i l L;cases h;obtain⟨d,i,h1,h2,h3,h4⟩:=abU J;obtain⟨S,rfl⟩:=ahj L;refine⟨.agg ((r.cells.drop (b+off)).take n),?_,?_,rfl,S,rfl,rfl⟩;.grind[de,bq,Nat.ble_eq_true_of_le]
   simp only[aA];refine⟨?_,_,rfl,?_⟩;.grind
   have:=JQ n (KD off Y);grind[List.drop_take,List.drop_drop]
  cases h
 .rename_i m J;split at h
  .rename_i c l L;cases h;obtain⟨d,i,h1,h2,h3,h4⟩:=abU J;obtain⟨S,h6⟩:=ahj L;have y:=JQ 1 (KD off Y);rw[zG,aEa,pG,Nu (by omega),<-h6]at y;obtain⟨a,Z9,e,Z,h8⟩:=cf.1 y;have A:(a::Z9).length=1:=by grind
   have M:Z9=[]:=km (by simpa using A);have K:l=[]:=by grind[List.length_take]
   subst M K;have q:v.cell=true:=by grind[List.mem_of_mem_drop,List.mem_of_mem_take]
   have F:v.cells=[v]:=by cases v<;>simp_all [ae.cell,ae.cells]
   have N:a.cells=[a]:=by have:=vp Z q;cases a<;>simp_all [aa.eh,aa.cells]
   refine⟨a,?_,Z,?_,S,by rw[F,h6],by rw[N,e]⟩;.simp only[de,h1,h2,h3,bq,hg];grind[Nat.ble_eq_true_of_le]
   cases v<;>simp_all [ae.cell,ae.fw]
  cases h
 .cases h
def Ca(D d k off n:Nat)(dst:Option Tmp):bX->Option bX
 |.tmp d' i j=>if d'=D/\dst=some i then none else some (.tmp d' i j)
 |.box d' k' j=>if d'=d/\k'=k/\off<=j/\j<off+n then(match dst with|some t=>some (.tmp D t (j-off))|none=>none)else some (.box d' k' j)
 |s=>some s
theorem avQ(h:Ok ng gl D G T T' st H){n:Nat}{dst:Option Tmp}{x:ae}{ax:aa}{b:Option (Nat×Nat)}{J:aq}(hx:aA (cut (D+1) G.ρ) G.I x ax)(y:vk P tk st t x=some (v,b,J)):
 ∃a G',de P H.objs.get t ax=some a/\Ok ng gl D G' (da n T dst v) (cG n T' dst a) J H/\cw D G st H G' J H (ja .clean) qq/\
  (∀d k,b=some (d,k)->∃u,G.ρ d k=some u/\(bE st d k).isSome=true/\∀F:Nat->Option Row,F u=H.objs.get u->de P F t ax=some a)/\
  (b=none->∀F:Nat->Option Row,(∀u r,G.I u=some r->F u=some r)->de P F t ax=some a):=by
 unfold vk at y;split at y
 .rename_i cs off;split at y
  .rename_i w m hw;cases y;simp only[aA]at hx;obtain⟨u,o,r,rfl,h2,h3,h4⟩:=hx;have ad:=(KT h4);obtain⟨a,N,M,k3,_⟩:=Fq (ρ:=cut (D+1) G.ρ) (I:=G.I) hw (h.bN.fJ u r h2) h3 (B0 h4) ad.2.2;obtain⟨G',g1,g2⟩:=stepT (n:=n) (dst:=dst) h (src:=[]) (kO.pr ⟨nu M,pw⟩ []);refine⟨a,G',N,g1,g2,λ d k e=>(by cases e),λ _ F ac=>?_⟩;obtain⟨a',am,al,_,_,_,kc⟩:=Fq (ρ:=cut (D+1) G.ρ) (I:=G.I) hw (ac u r h2) h3 (B0 h4) ad.2.2;have:de P F t (.ptr u (o+off))=de P H.objs.get t (.ptr u (o+off)):=by simp only[de,bq,ac u r h2,h.bN.fJ u r h2]
   rw[this];exact N
  cases y
 .rename_i d k off;split at y
  .rename_i cs K;split at y
   .rename_i w m hw;simp only[aA]at hx;obtain⟨u,hu,rfl⟩:=hx;have ar:d<D+1:=by grind[cut]
    have af:G.ρ d k=some u:=GC _ _ _ _ _ hu;obtain⟨u2,r,A⟩:=h.bN.box d k cs K;have:u2=u:=by have:=A.ref;grind
    subst this;have Y:=pz A.cells;have ai:bB (cut (d+1) G.ρ) G.I cs ((r.cells.drop 0).take cs.length):=by rw[cM,<-Y,aiw];exact A.cells
    obtain⟨a,N,M,k3,k4,k5,k6⟩:=Fq hw A.row (by omega) ai A.cell;simp only[iX]at N k6;have M:aA (cut (D+1) G.ρ) G.I w a:=wW (RQ (by omega) _) (cu.refl _) _ _ M;have ag:∀F:Nat->Option Row,F u2=H.objs.get u2->de P F t (.ptr u2 off)=some a:=λ F e=>by grind[de,bq]
    cases tk;.cases y;obtain⟨G',g1,g2⟩:=stepT (n:=n) (dst:=dst) h (src:=[]) (kO.pr ⟨nu M,pw⟩ []);refine⟨a,G',N,g1,g2,λ d' k' e=>?_,λ e=>(by cases e)⟩;grind
    cases y;have ap:m<=cs.length-off:=by omega
    have S:∀d' k',bE (oU st d k (cm cs off (((cs.drop off).take m).map di))) d' k'=if d'=d/\k'=k then some (cm cs off (((cs.drop off).take m).map di))else bE st d' k':=by grind[amj]
    have ak:ep r.cells off ((r.cells.drop off).take m)=r.cells:=by grind[ep,List.take_append_drop]
    have Z:(((cs.drop off).take m).map di).length=m:=by simp;omega
    have an:bB (cut (d+1) G.ρ) G.I (((cs.drop off).take m).map di) ((r.cells.drop off).take m):=Jt (JQ m (KD off A.cells));refine⟨a,eG G (Ca D d k off m (fS n dst)),N,⟨?_,?_,by rw[aej];exact h.gC,h.iA.mono (cu.refl _)⟩,?_,λ d' k' e=>?_,λ e=>(by cases e)⟩
    .refine h.bN.put K A S rfl (λ _=>rfl) (r:=r) (ac2:=r.cells) A.row (λ _ _=>rfl) rfl ?_ ?_ ?_ ?_;.grind[TO]
     .have hc:=A.cell;grind[cm,OY]
     .intro j es sz c q L;have g1:(cs.take off).length=off:=by rw[n8];omega
      simp only[cm]at q;rw[vH]at q;rcases rK j off with hj|hj
      .rw[xp (by omega),qw,ao hj]at q;refine(A.own j es sz c q L).eG ?_;simp only[Ca];rw[aj (by omega)]
      rw[xo (by omega),g1]at q;rcases rK (j-off) m with ab|ab
      .grind[Ts]
      rw[xo (by rw[Z];exact ab),zF,Z,show off+m+(j-off-m)=j by omega]at q;refine(A.own j es sz c q L).eG ?_;simp only[Ca];rw[aj (by omega)]
     intro d' k' j hk;simp only[Ca];grind
    .refine h.tmp.step (src:=[]) (kt.refl _) (cu.refl _) M (λ i hi j es sz c q L=>?_) (λ i j es sz c _ hd ho=>ho.eG ?_)
     .rw[k5,qw]at q;rw[k6,qw]at L;split at q;.rename_i hj;rw[ao hj]at L;rw[zF]at q L;refine(A.own (off+j) es sz c q L).eG ?_;have hc:d=d/\k=k/\off<=off+j/\off+j<off+m:=⟨rfl,rfl,by omega,by omega⟩;show(if d=d/\k=k/\off<=off+j/\off+j<off+m then _ else _)=_;grind
      cases q
     grind[Ca]
    .refine cw.put K af S aej rfl (λ _=>rfl) (λ _ _=>rfl) (.inl rfl) λ s hs=>?_
     cases s with
     |tmp d' i j=>
      have:d'<D:=hs;grind[Ca]
     |box _ _ _=>exact hs.elim
     |up s=>rfl
    grind
   cases y
  cases y
 .cases y
end
section
variable{v:ae}{ρ':Bx}
variable{P:Program}{ng:Nat}{gl:aM}{G:Gh}{D:Nat}{T:VT}{T':Tr aa}{st:aq}{H:ah}{ρ:Bx}{I:Im}
def Jm(ρ:Bx)(I:Im):Option ae->Option aa->Prop
 |none,none=>True
 |some v,some a=>aA ρ I v a
 |_,_=>False
def X3(F:nF G D T T')(A:kJ ng gl G){x:Option Operand}{y:Option ae}(h:D7 gl T x=some y):∃y',nK ng T' x=some y'/\Jm (cut (D+1) G.ρ) G.I y y':=by
 unfold D7 at h;split at h;.cases h;exact⟨none,rfl,trivial⟩
 split at h;.rename_i o v q;cases h;obtain⟨a,K,J,_⟩:=gq F A q;exact⟨some a,by simp only[nK,K],J⟩
 cases h
def Jh{x:Option ae}{y:Option aa}(h:kU x d=some n)(k:Jm ρ I x y):mb y d=some n:=by
 cases x
 .cases y;.simpa[kU,mb]using h
  exact k.elim
 rename_i v;cases y;.exact k.elim
 rename_i a;have h:AJ v=some n:=h;obtain⟨kd,rfl⟩:=ado h k;rfl
theorem afm{es:aS}{v:Nat}{y:Option Nat}(L:I v=some r)(K:es=[]\/y=none/\r.sz=sz)(M:off+es.length*sz<=r.cells.length)(F:bR I sz es ((r.cells.drop off).take (es.length*sz))){l h:Nat}(S:l<=h)(N:h<=es.length){lim':Option Nat}(A:lim'=y):
 RP I (.sl ((es.drop l).take (h-l)) none) (.slice v (off+l*sz) (h-l) lim'):=by
 subst A;have q:((es.drop l).take (h-l)).length=h-l:=by grind
 have J:(l+(h-l))*sz<=es.length*sz:=mQ _ (by omega);rw[jR]at J;simp only[RP];refine .inr ⟨v,off+l*sz,lim',r,sz,by rw[q],L,K.imp (λ e=>by rw[e];simp) id,by rw[q];omega,?_⟩;rw[q];have:=acP (h-l) (Qn l F);grind[List.drop_take,List.drop_drop]
theorem aoQ{x:ae}{lo hi:Option ae}{ax:aa}{L Y:Option aa}{g:Nat->Option Row}(h:Bn P t x lo hi=some v)(K:aA ρ I x ax)(S:Jm ρ I lo L)(Z:Jm ρ I hi Y)(hg:∀u r,I u=some r->g u=some r):
 ∃a,jY P g t ax L Y=some a/\kO ρ I v a:=by
 unfold Bn at h;split at h
 .rename_i es o;split at h
  .rename_i sz ao l m hq hl hm;split at h
   .rename_i hc;cases h;obtain⟨h1,F,h3⟩:=hc;obtain⟨te,ti,q1,q2,q3,q4,q5,q6⟩:=DH hq;have A:=Jh hl S;have y:=Jh hm Z;have q:∀a,RP I (.sl ((es.drop l).take (m-l)) none) a->kO ρ I (.sl ((es.drop l).take (m-l)) none) a:=λ a k=>⟨k,iF (by simp) rfl⟩
    have N:RP I (.sl es none) ax:=K;simp only[RP]at N;rcases N with⟨rfl,rfl|rfl⟩|⟨u,off,M,r,sz',rfl,k1,k2,k3,k4⟩
    .simp only[dG,aix]at F;subst F;have:l=0:=by omega
     subst this;exact⟨.ai,by simp only[dG]at y;simp only[jY,q1,A,y,q2],q _ K⟩
    .simp only[dG,aix]at F;subst F;have:l=0:=by omega
     subst this;exact⟨.dq,by simp only[dG]at y;simp only[jY,q1,A,y,q2],q _ K⟩
    cases es
    .simp only[dG,aix]at F;subst F;have:l=0:=by omega
     subst this;refine⟨.slice u off 0 M,?_,q _ K⟩;simp only[dG]at y⊢;simp only[jY,q1,A,y,q2]
    rename_i e es;have ac:sz'=sz:=by grind[Tu]
    subst ac;have al:=hg u r k1;simp only[cD]at y⊢;simp only[cD]at F k3;cases M
    .have aj:r.sz=sz':=by grind
     have ag:off<=r.cells.length:=by omega
     have ab:m<=(r.cells.length-off)/sz':=by rw[Nat.le_div_iff_mul_le q6];have:m*sz'<=(es.length+1)*sz':=mQ _ F;omega
     have af:hY g ti.size (.slice u off (es.length+1) none)=some (r.exact,(r.cells.length-off)/sz'):=by grind[hY,Nat.beq_refl,Nat.ble_eq_true_of_le]
     simp only[jY,q1,q2,af,A,y];rw[b9 h1,b9 ab];simp only;cases ak:Nat.ble (l+1) ((r.cells.length-off)/sz')
     .have am:(r.cells.length-off)/sz'<=l:=by grind[Nat.ble_eq_true_of_le]
      have ad:m=l:=by omega
      subst ad;have J:(List.drop m (e::es)).take (m-m)=[]:=by simp
      cases h0:Nat.beq m 0
      .cases an:r.exact;.refine⟨_,rfl,q _ ?_⟩;rw[J];simp only[RP];grind
       refine⟨_,rfl,q _ ?_⟩;rw[J];simp only[RP];refine .inr ⟨u,off,some 0,r,sz',rfl,k1,by simp,by simp;omega,?_⟩;simp[bR]
      have:m=0:=cU h0;subst this;refine⟨_,rfl,q _ ?_⟩;have:=afm k1 k2 (by simpa using k3) k4 (l:=0) (h:=0) (be _) (iB _) (lim':=none) rfl;simpa using this
     refine⟨_,rfl,q _ ?_⟩;rw[q3];exact afm k1 k2 (by simpa using k3) k4 h1 (by simpa using F) rfl
    rename_i c;grind
   cases h
  cases h
 .rename_i s;split at h
  .rename_i l m hs hl hm;split at h
   .rename_i hc;cases h;simp only[aA]at K;obtain⟨rfl,_⟩:=K;refine⟨.str ((s.drop l).take (m-l)),?_,?_,iF (by simp) rfl⟩;.simp only[jY,hs,Jh hl S,Jh hm Z];grind[Nat.ble_eq_true_of_le]
    simp only[aA];exact⟨trivial,rfl⟩
   cases h
  cases h
 .cases h
def aup{ρ:Bx}{I:Im}(h:aA ρ I v b)(q:v.data=true):aA ρ' I v b:=by
 cases v with
 |sc a=>simp only[aA]at h⊢;exact h
 |sl es o=>exact h
 |_=>simp[ae.data]at q
theorem KY{ρ:Bx}{I:Im}:∀{vs:List ae} {bs:List aa},bB ρ I vs bs->vs.all ae.data=true->bB ρ' I vs bs
 |[],_,h,_=>h
 |v::vs,_,h,q=>by obtain⟨c,cs,rfl,A,y⟩:=cf.1 h;simp only[ug,aR]at q;exact cf.2 ⟨c,cs,rfl,aup A q.1,KY y q.2⟩
def zP(D d k off n:Nat)(src:List Tmp)(dst:Option Tmp):bX->Option bX
 |.tmp d' i j=>if d'=D then(if i∈src then some (.box d k (off+j))else if dst=some i then none else some (.tmp d' i j))else some (.tmp d' i j)
 |.box d' k' j=>if d'=d/\k'=k/\off<=j/\j<off+n then none else some (.box d' k' j)
 |s=>some s
theorem aA7{H:ah}{new:List aa}(h:H.objs.get u=some r)(F:r.ro=false)(A:off+new.length<=r.cells.length)(h3:new.all aa.eh=true)(y:r.aC=u)(q:H.aG.get u=some [u]):
 gM H u off new=some {H with objs:=H.objs.set u (some {r with cells:=ep r.cells off new})}:=by
 grind[gM,Nat.ble_eq_true_of_le,jF,Nat.beq_refl]
theorem aoL{a new:List aa}(h:off+new.length<=a.length):(ep a off new).length=a.length:=by grind[ep]
theorem azV(h:Ok ng gl D G T T' st H){x:Operand}{p v:ae}{ap av:aa}{M:aq}(hp:aA (cut (D+1) G.ρ) G.I p ap)(hv:aA (cut (D+1) G.ρ) G.I v av)(ho:rf G D x v.cells av.cells)
 (J:BP P st t p v=some (M,d,k)):∃H' G',dJ P H t ap av=some H'/\Ok ng gl D G' (da n (gZ (jB x) T) dst (.aL [])) (cG n T' dst (.tuple [])) M H'/\cw D G st H G' M H' (ja (.box d k)) qq:=by
 unfold BP at J;split at J
 .rename_i d0 k0 off m hq;split at J
  .rename_i cs N;split at J
   .rename_i ht y Z hc;cases J;have y:v.cells.length=m:=by simpa using y
    have Z:off+m<=cs.length:=by simpa using Z
    simp only[aR,nZ,beq_iff_eq]at hc;obtain⟨ai,ag⟩:=hc;simp only[aA]at hp;obtain⟨u,hu,rfl⟩:=hp;have al:d<D+1:=by grind[cut]
    have ac:G.ρ d k=some u:=GC _ _ _ _ _ hu;obtain⟨u2,r,K⟩:=h.bN.box d k cs N;have:u2=u:=by have:=K.ref;grind
    subst this;have aj:=pz K.cells;have L:=BV hv ht;have ab:=pz L
    have S:bB (cut (d+1) G.ρ) G.I v.cells av.cells:=by
     rcases ai with e|e
     .rw[show d=D by rw[e,h.gC]];exact L
     exact KY L e
    have ad:∃i,P.info? t=some i/\i.size=m:=by grind[IX]
    obtain⟨i,hi,ak⟩:=ad;have hw:=aA7 K.row K.rw (off:=off) (new:=av.cells) (by omega) (Rx L ag) K.aC K.mem;have Y:∀d' k',bE (m9 st d k (cm cs off v.cells)) d' k'=if d'=d/\k'=k then some (cm cs off v.cells)else bE st d' k':=by grind[afA]
    refine⟨{H with objs:=H.objs.set u2 (some {r with cells:=ep r.cells off av.cells})},eG G (zP D d k off m (jB x) (fS n dst)),?_,⟨?_,?_,by rw[ahM];exact h.gC,h.iA.mono (cu.refl _)⟩,?_⟩
    rotate_left
    .refine h.bN.put N K Y rfl (λ _=>rfl) (r:=r) (ac2:=ep r.cells off av.cells) (Tr.sY _ _ _) (λ w hw=>Tr.tJ _ (λ e=>hw e.symm) _) (aoL (by omega)) (TO K.cells S off) ?_ ?_ ?_;.have hc:=K.cell;grind[cm]
     .intro j es sz c F A;have g1:(cs.take off).length=off:=by rw[n8];omega
      have g2:(r.cells.take off).length=off:=by rw[n8];omega
      simp only[cm]at F;simp only[ep]at A;rw[vH]at F A;rcases rK j off with hj|hj
      .rw[xp (by omega),qw,ao hj]at F A;refine(K.own j es sz c F A).eG ?_;grind[zP]
      rw[xo (by omega)]at F A;rw[g1]at F;rw[g2]at A;rcases rK (j-off) m with af|af
      .rw[xp (by omega)]at F A;rcases ho (j-off) es sz c F A with q|⟨t',rfl,q⟩
       .exact .inl q
       refine q.eG ?_;grind[zP,jB]
      rw[xo (by omega),zF]at F A;rw[y,show off+m+(j-off-m)=j by omega]at F;rw[ab,y,show off+m+(j-off-m)=j by omega]at A;refine(K.own j es sz c F A).eG ?_;grind[zP]
     grind[zP]
    .refine h.tmp.step (kt.refl _) (cu.refl _) (by simp[aA]) (λ i hi j es sz c F A=>?_) (λ i j es sz c hi hd ho=>ho.eG ?_);.exact(iF (v:=.aL []) (by simp) rfl).own _ _ j es sz c F A
     grind[zP]
    .refine cw.put N ac Y ahM rfl (λ _=>rfl) (λ w hw=>Tr.tJ _ (λ e=>hw e.symm) _) (.inr ⟨rfl,rfl⟩) λ s J=>?_
     cases s with
     |tmp d' i j=>
      have:d'<D:=J;grind[zP]
     |box _ _ _=>exact J.elim
     |up s=>rfl
    simp only[dJ,hi];grind[Nat.beq_refl]
   cases J
  cases J
 .cases J
end
section
variable{cs:List ae}{es:aS}{s s':bX}{st':aq}{φ:bX->Option bX}
variable{P:Program}{ng:Nat}{gl:aM}{G:Gh}{D:Nat}{T:VT}{T':Tr aa}{st:aq}{H:ah}{ρ:Bx}{I:Im}
def newRow(H:ah)(cells:List aa)(ex:Bool)(sz:Nat):Row:={cells,aC:=H.next,start:=0,exact:=ex,ro:=false,sz}
theorem vG{cells:List aa}:(alloc H cells ex sz).objs.get u=if u=H.next then some (newRow H cells ex sz)else H.objs.get u:=by
 show(H.objs.set H.next _).get u=_;rw[Tr.fT];by_cases h:u=H.next;.rw[ao h,ao h.symm];rfl
 grind
theorem Ad{cells:List aa}:(alloc H cells ex sz).aG.get u=if u=H.next then some [H.next]else H.aG.get u:=by show(H.aG.set H.next _).get u=_;grind[Tr.fT]
def cn.lt(h:cn G st H)(e:G.I u=some r):u<H.next/\r.aC<H.next:=h.wf u r (h.fJ u r e)
def uW.lt(h:cn G st H)(b:uW G H d k cs u r):u<H.next:=(h.wf u r b.row).1
def yd(G:Gh)(H:ah)(cells:List aa)(ex:Bool)(sz:Nat)(s:Option bX)(φ:bX->Option bX):Gh where
 ρ:=G.ρ
 I:=λ u=>if u=H.next then some (newRow H cells ex sz)else G.I u
 own:=λ f=>if f=H.next then s else(G.own f).bind φ
 tp:=λ f=>if f=H.next then cells.length else G.tp f
def wH(h:cn G st H)(cells:List aa)(ex:Bool)(sz:Nat)(s:Option bX)(φ:bX->Option bX):cu G.I (yd G H cells ex sz s φ).I:=λ u r e=>by show(if u=H.next then _ else G.I u)=some r;rw[aj (by have:=(h.lt e).1;omega)];exact e
theorem jg.wV(h:cn G st H){cells:List aa}{q:Nat}{s0:Option bX}(k:jg G s es sz a)(e:φ s=some s'):jg (yd G H cells ex q s0 φ) s' es sz a:=by
 rcases k with k|⟨v,off,r,K,y,h3,J,F,A,N,M⟩
 .exact .inl k
 have L:=h.lt y;refine .inr ⟨v,off,r,K,wH h _ _ _ _ _ v r y,h3,J,F,A,?_,?_⟩;.show(if r.aC=H.next then s0 else(G.own r.aC).bind φ)=some s';grind
 show(if r.aC=H.next then _ else G.tp r.aC)=_;grind
theorem cn.wV(h:cn G st H){cells:List aa}{s0:Option bX}{φ:bX->Option bX}(A:∀d k j,φ (.box d k j)=some (.box d k j)):cn (yd G H cells ex sz s0 φ) st (alloc H cells ex sz)where
 gd:=gD h.gd _ _ _
 fJ:=λ u r e=>by
  have e:(if u=H.next then some (newRow H cells ex sz)else G.I u)=some r:=e;rw[vG];split at e;.grind
  rename_i q;rw[aj q];exact h.fJ u r e
 box:=λ d k cs e=>by
  obtain⟨u,r,b⟩:=h.box d k cs e;have q:=uW.lt h b;refine⟨u,r,{ref:=b.ref,row:=?_,rw:=b.rw,sz:=b.sz,aC:=b.aC,mem:=?_,im:=?_,un:=?_,cells:=xR (kt.refl _) (wH h _ _ _ _ _) _ _ b.cells,cell:=b.cell,own:=λ j es sz a K J=>(b.own j es sz a K J).wV h (A _ _ _)}⟩;.rw[vG,aj (by omega)];exact b.row
  .rw[Ad,aj (by omega)];exact b.mem
  .show(if u=H.next then _ else G.I u)=none;rw[aj (by omega)];exact b.im
  show(if u=H.next then s0 else(G.own u).bind φ)=none;rw[aj (by omega),b.un];rfl
 inj:=h.inj
 lq:=λ d k u e=>iq (h.lq d k u e)
 aC:=λ f s e=>by
  have e:(if f=H.next then s0 else(G.own f).bind φ)=some s:=e;show f<H.next+1/\∃mem,(alloc H cells ex sz).aG.get f=some mem/\∀u∈mem,u<H.next+1/\∀ru,(alloc H cells ex sz).objs.get u=some ru->ru.start+ru.cells.length<=(if f=H.next then cells.length else G.tp f);rw[Ad];split at e;.rename_i y;subst y;grind[vG,newRow]
  rename_i y;obtain⟨L,mem,F,h3⟩:=h.aC.eG (φ:=φ) f s e;refine⟨by omega,mem,by rw[aj y];exact F,λ u q=>⟨by have:=(h3 u q).1;omega,λ ru e=>?_⟩⟩;rw[vG,aj (by have:=(h3 u q).1;omega)]at e;rw[aj y];exact(h3 u q).2 ru e
theorem cw.wV(h:cn G st H){cells:List aa}{s0:Option bX}{φ:bX->Option bX}{y:Nat->Prop}(A:∀s,rV D s->φ s=some s):cw D G st H (yd G H cells ex sz s0 φ) st (alloc H cells ex sz) tch y where
 im:=wH h _ _ _ _ _
 mh:=λ _ _ _=>rfl
 nq:=λ _ _=>rfl
 live:=λ d k u e J _=>⟨e,J⟩
 next:=jl _
 rows:=λ u F=>.inl (by rw[vG,aj (by omega)])
 sD:=λ f s K e=>by
  have q:=(h.aC f s e).1;refine⟨?_,?_⟩;.show(if f=H.next then s0 else(G.own f).bind φ)=some s;grind
  show(if f=H.next then _ else G.tp f)=_;rw[aj (by omega)]
 uk:=rfl
 nJ:=λ u r e F=>by have e:(if u=H.next then some (newRow H cells ex sz)else G.I u)=some r:=e;grind
 qM:=λ f s e q=>by have e:(if f=H.next then s0 else(G.own f).bind φ)=some s:=e;rw[aj (by omega)]at e;exact xK (G:=G) (φ:=φ) e
 aG:=λ f q _=>by rw[Ad,aj (by omega)]
def su(G:Gh)(H:ah)(D k:Nat)(φ:bX->Option bX):Gh where
 ρ:=λ d k'=>if d=D/\k'=k then some H.next else G.ρ d k'
 I:=G.I
 own:=λ f=>(G.own f).bind φ
 tp:=G.tp
theorem Sn(h:Nat):QE D k (cut h G.ρ) (cut h (su G H D k φ).ρ):=λ d' k' u y e=>by
 unfold cut at e⊢;split at e;.rename_i q;rw[ao q];show(if d'=D/\k'=k then _ else G.ρ d' k')=some u;grind
 cases e
def alG{q:Nat}(h:q<=D):kt (cut q G.ρ) (cut q (su G H D k φ).ρ):=λ d' k' u e=>by
 unfold cut at e⊢;split at e;.rename_i y;rw[ao y];show(if d'=D/\k'=k then _ else G.ρ d' k')=some u;rw[aj (by omega)];exact e
 cases e
theorem SK(h:gY T st k cs=some st'):sM st.up.length k T=true/\tC st.up.length k (lJ k st.cur)=true/\iJ st.up.length k cs=true/\cs.all ae.cell=true/\
 st'.up=st.up/\∀d k',bE st' d k'=if d=st.up.length/\k'=k then some cs else bE st d k':=by
 unfold gY at h;split at h;.grind[bE,zo,Ve]
 .cases h
def jg.xm{h:Nat}(k:jg G s es sz a)(e:φ s=some s'):jg (su G H D h φ) s' es sz a:=by
 rcases k with k|⟨v,off,r,L,K,h3,J,F,A,y,q⟩
 .exact .inl k
 refine .inr ⟨v,off,r,L,K,h3,J,F,A,?_,q⟩;show(G.own r.aC).bind φ=some s';rw[y];exact e
theorem cn.xm(h:cn G st H)(hD:st.up.length=D){cells:List aa}{φ:bX->Option bX}(hn:gY T st k cs=some st')(hr:bB (cut (D+1) G.ρ) G.I cs cells)(ho:mw (su G H D k φ) (.box D k) cs cells)
 (J:∀d k' j,(d≠D\/k'≠k)->φ (.box d k' j)=some (.box d k' j)):cn (su G H D k φ) st' (alloc H cells true 1):=by
 obtain⟨n1,Y,S,n4,n5,F⟩:=SK hn;rw[hD]at n1 Y S F;refine⟨gD h.gd _ _ _,λ u r e=>?_,λ d k' N e=>?_,λ d1 k1 d2 Z c1 c2 u M L e3 e4=>?_,λ f s e=>?_,λ d k' u e=>?_⟩;.have e:G.I u=some r:=e;rw[vG,aj (by have:=(h.lt e).1;omega)];exact h.fJ u r e
 .rw[F]at e;split at e
  .rename_i q;cases e;obtain⟨rfl,rfl⟩:=q;refine⟨H.next,newRow H cells true 1,{ref:=?_,row:=?_,rw:=rfl,sz:=rfl,aC:=rfl,mem:=?_,im:=?_,un:=?_,cells:=Ec (Sn _) _ _ S hr,cell:=n4,own:=ho}⟩;.show(if d=d/\k'=k' then _ else _)=_;rw[ao ⟨rfl,rfl⟩]
   .rw[vG,ao rfl]
   .rw[Ad,ao rfl]
   .show G.I H.next=none;cases e:G.I H.next;.rfl
    rename_i r;have:=(h.lt e).1;omega
   show(G.own H.next).bind φ=none;cases e:G.own H.next;.rfl
   rename_i s;have:=(h.aC _ s e).1;omega
  rename_i q;have q:d≠D\/k'≠k:=by grind
  obtain⟨u,r,b⟩:=h.box d k' N e;have A:=uW.lt h b;have ab:=NV e;refine⟨u,r,{ref:=?_,row:=?_,rw:=b.rw,sz:=b.sz,aC:=b.aC,mem:=?_,im:=b.im,un:=?_,cells:=?_,cell:=b.cell,own:=λ j es sz a M L=>(b.own j es sz a M L).xm (J _ _ _ q)}⟩;.show(if d=D/\k'=k then _ else G.ρ d k')=_;rw[aj (by grind)];exact b.ref
  .rw[vG,aj (by omega)];exact b.row
  .rw[Ad,aj (by omega)];exact b.mem
  .show(G.own u).bind φ=none;rw[b.un];rfl
  by_cases hd:d=D
  .subst hd;refine Ec (Sn _) _ _ ?_ b.cells;have K:k'≠k:=by grind
   unfold bE at e;rw[ao hD.symm]at e;refine agQ (i:=k') Y ?_;rw[Ve,aj K];exact e
  exact xR (alG (by omega)) (cu.refl _) _ _ b.cells
 .have y:∀d k' c,bE st' d k'=some c->(su G H D k φ).ρ d k'=some u->(d=D/\k'=k/\u=H.next)\/(∃c,bE st d k'=some c/\G.ρ d k'=some u/\u<H.next):=by
   intro d k' c e e';have e':(if d=D/\k'=k then some H.next else G.ρ d k')=some u:=e';rw[F]at e;split at e;.grind
   rename_i q;rw[aj q]at e';obtain⟨u',r,b⟩:=h.box d k' c e;have:u'=u:=by have:=b.ref;grind
   subst this;exact .inr ⟨c,e,e',uW.lt h b⟩
  rcases y d1 k1 c1 M e3 with⟨a1,a2,a3⟩|⟨ad,a1,a2,a3⟩
  .grind
  rcases y d2 Z c2 L e4 with⟨b1,b2,b3⟩|⟨ac,b1,b2,b3⟩
  .omega
  exact h.inj d1 k1 d2 Z _ _ u a1 b1 a2 b2
 .have e:(G.own f).bind φ=some s:=e;obtain⟨h1,mem,h2,h3⟩:=h.aC.eG (φ:=φ) f s e;show f<H.next+1/\∃mem,(alloc H cells true 1).aG.get f=some mem/\∀u∈mem,u<H.next+1/\∀ru,(alloc H cells true 1).objs.get u=some ru->ru.start+ru.cells.length<=G.tp f;refine⟨by omega,mem,by grind[Ad],λ u A=>⟨by have:=(h3 u A).1;omega,λ ru e=>?_⟩⟩;rw[vG,aj (by have:=(h3 u A).1;omega)]at e;exact(h3 u A).2 ru e
 .have e:(if d=D/\k'=k then some H.next else G.ρ d k')=some u:=e;show u<H.next+1;split at e;.cases e;omega
  have:=h.lq d k' u e;omega
theorem cw.xm(h:cn G st H)(L:st.up.length=D){cells:List aa}{φ:bX->Option bX}(K:gY T st k cs=some st')(q:∀s,rV D s->φ s=some s):cw D G st H (su G H D k φ) st' (alloc H cells true 1) tch (·=k):=by
 obtain⟨n1,S,N,M,A,y⟩:=SK K;rw[L]at y;refine⟨cu.refl _,λ d k' hd=>?_,λ k' Y=>?_,λ d k' u e e' F=>?_,jl _,λ u F=>.inl (by rw[vG,aj (by omega)]),λ f s J e=>⟨?_,rfl⟩,by rw[A],λ _ _ e _=>e,λ f s e _=>xK (G:=G) (φ:=φ) e,λ f Z _=>by rw[Ad,aj (by omega)]⟩;.show(if d=D/\k'=k then _ else G.ρ d k')=_;rw[aj (by omega)]
 .show(if D=D/\k'=k then _ else G.ρ D k')=_;grind
 .have e':(if d=D/\k'=k then some H.next else G.ρ d k')=some u:=e';grind
 show(G.own f).bind φ=some s;rw[e];exact q s J
def nF.xm(h:nF G D T T'){v:ae}(J:sM D k T=true)(F:aA (cut (D+1) (su G H D k φ).ρ) G.I v a)(L:∀i,fS n dst=some i->mw (su G H D k φ) (.tmp D i) v.cells a.cells)
 (K:∀i j,i∉src->fS n dst≠some i->φ (.tmp D i j)=some (.tmp D i j)):nF (su G H D k φ) D (da n (gZ src T) dst v) (cG n T' dst a):=by
 have A:∀i w,lk T i=some w->aA (cut (D+1) (su G H D k φ).ρ) G.I w (aw T' i):=λ i w e=>abR (Sn _) _ _ (Xf J e) (h i w e).1
 intro i w e;rw[RT]at e;rw[Su];split at e;.rename_i q;cases e;rw[ao q];exact⟨F,L i (Cp.2 q)⟩
 .rename_i q;rw[aj q];rw[Ix]at e;by_cases hi:i∈src
  .rw[ao hi]at e;cases y:lk T i;.rw[y]at e;cases e
   rename_i w';rw[y]at e;simp only[lA,lz]at e;subst e;exact⟨nu (A i w' y),pw.own _ _⟩
  rw[aj hi]at e;exact⟨A i w e,λ j es sz c N M=>((h i w e).2 j es sz c N M).xm (K i j hi (λ k=>q (Cp.1 k)))⟩
end
section
variable{st':aq}{v:ae}{zs:List aa}
variable{P:Program}{ng:Nat}{gl:aM}{G:Gh}{D:Nat}{T:VT}{T':Tr aa}{st:aq}{H:ah}{ρ:Bx}{I:Im}
theorem RX{zc:List ae}(h:wK P t=some zc):∃e i za,P.underlying t=some (.slice e)/\P.info? e=some i/\ig P e=some za/\za.cells.length=i.size/\zc.length=i.size/\bB ρ I zc za.cells:=by
 unfold wK at h;split at h
 .rename_i e A;split at h
  .rename_i z i q hi;split at h;.rename_i y;cases h;obtain⟨za,F,_,h3,_⟩:=MR (ρ:=ρ) (I:=I) q;grind[pz]
   cases h
  cases h
 cases h
theorem aep{z:List ae}(h:cE I z zs)(q:z.length=sz):∀n:Nat,bR I sz (List.replicate n z) (kh zs n)
 |0=>by simp[bR,kh]
 |n+1=>by
  rw[Nv];have:=xU h;refine nt.2 ⟨q,?_,?_⟩;.grind[kh]
  show bR I sz _ ((zs++kh zs n).drop sz);rw[aA9 (by omega),Nw (by omega),jS];exact aep h q n
def aea{z:List ae}(h:cE I z zs):∀n:Nat,cE I (List.replicate n z).flatten (kh zs n)
 |0=>by simp[cE,kh]
 |n+1=>by rw[Nv,List.flatten_cons];exact ahw h (aea h n)
theorem af1{e':List ae}{y:List aa}(J:e'.length=sz)(q:cE I e' y):∀{es:aS} {x:List aa} {i:Nat},bR I sz es x->i<es.length->bR I sz (es.set i e') (ep x (i*sz) y)
 |[],_,_,_,hi=>by simp at hi
 |e::es,x,0,h,_=>by grind[nt,xU,ep]
 |e::es,x,i+1,h,hi=>by
  obtain⟨N,M,h3⟩:=nt.1 h;have F:=uz h;have A:(x.take sz).length=sz:=by grind[Nat.succ_mul]
  have K:=af1 J q h3 (i:=i) (by simpa using hi);rw[aiy];have L:ep x ((i+1)*sz) y=x.take sz++ep (x.drop sz) (i*sz) y:=by grind[ep,Nat.succ_mul,List.drop_drop]
  grind[nt]
theorem Y4:∀{ps:List (Nat×Operand)} {vs:List (Nat×ae)} {Z9:List (Nat×aa)} {es y:aS} {cells:List aa},uL G D ps vs Z9->bR G.I sz es cells->mM sz es vs=some y->
 ∃q,fill (λ j=>some (j*sz,sz)) cells Z9=some q/\bR G.I sz y q/\y.length=es.length
 |[],[],[],es,y,cells,_,J,h=>by cases h;exact⟨cells,rfl,J,rfl⟩
 |(i0,x)::ps,(i,v)::vs,(N,a)::Z9,es,y,cells,L,J,h=>by
  obtain⟨e0,e1,h1,_,L⟩:=L;subst e0 e1;simp only[mM]at h;split at h
  .rename_i Z M hi;have M:v.cells.length=sz:=by simpa using M
   have hi:N<es.length:=by simpa using hi
   have Y:v.fw=false:=by
    cases v with
    |aL l=>grind[ae.cells,ae.data]
    |un=>grind[ae.cells,ae.data]
    |_=>rfl
   have A:=BV h1 Y;have S:=pz A;have K:=Dw A Z;have F:=af1 (I:=G.I) (e':=v.cells.map di) (by simpa using M) K J hi;obtain⟨q,h3,h4,h5⟩:=Y4 L F h;refine⟨q,?_,h4,by simpa using h5⟩;simp only[fill];have ab:=uz J;have:(N+1)*sz<=es.length*sz:=mQ _ hi;grind[Nat.beq_refl,Nat.ble_eq_true_of_le]
  cases h
 |[],_::_,_,_,_,_,h,_,_=>h.elim
 |[],[],_::_,_,_,_,h,_,_=>h.elim
 |_::_,[],_,_,_,_,h,_,_=>h.elim
 |_::_,_::_,[],_,_,_,h,_,_=>h.elim
def tl(D:Nat)(dst:Option Tmp):bX->Option bX
 |.tmp d i j=>if d=D/\dst=some i then none else some (.tmp d i j)
 |s=>some s
theorem S3:∀s,rV D s->tl D dst s=some s
 |.tmp d i j,h=>by have:d<D:=h;grind[tl]
 |.box _ _ _,h=>h.elim
 |.up s,_=>rfl
def DR(D k:Nat)(src:List Tmp)(dst:Option Tmp):bX->Option bX
 |.tmp d i j=>if d=D then(if i∈src then some (.box D k j)else if dst=some i then none else some (.tmp d i j))else some (.tmp d i j)
 |.box d k' j=>if d=D/\k'=k then none else some (.box d k' j)
 |s=>some s
theorem az5:∀s,rV D s->DR D k src dst s=some s
 |.tmp d i j,h=>by have:d<D:=h;grind[DR]
 |.box _ _ _,h=>h.elim
 |.up s,_=>rfl
theorem Nb(h:Ok ng gl D G T T' st H){cs:List ae}{cells:List aa}(F:gY T st k cs=some st')(K:bB (cut (D+1) G.ρ) G.I cs cells)
 (L:∀j es z c,cs[j]? =some (.sl es (some z))->cells[j]? =some c->(es=[]/\c=.ai)\/∃t∈src,jg G (.tmp D t j) es z c)
 (J:∀ρ':Bx,ρ' D k=some H.next->aA (cut (D+1) ρ') G.I v a) (A:nN v.cells a.cells):
 ∃G',Ok ng gl D G' (da n (gZ src T) dst v) (cG n T' dst a) st' (alloc H cells true 1)/\cw D G st H G' st' (alloc H cells true 1) (ja .clean) (·=k):=by
 have y:=SK F;refine⟨su G H D k (DR D k src (fS n dst)),⟨?_,?_,by rw[y.2.2.2.2.1];exact h.gC,h.iA.mono (cu.refl _)⟩,cw.xm h.bN h.gC F az5⟩
 .refine h.bN.xm h.gC F K (λ j es z c N M=>?_) λ d k' j Y=>?_
  .rcases L j es z c N M with q|⟨t,S,q⟩
   .exact .inl q
   refine q.xm ?_;grind[DR]
  grind[DR]
 .have n1:=y.1;rw[h.gC]at n1;refine h.tmp.xm n1 (J _ ?_) (λ i _=>A.own _ _) λ i j hi Z=>?_
  .show(if D=D/\k=k then some H.next else G.ρ D k)=_;rw[ao ⟨rfl,rfl⟩]
  grind[DR]
theorem arJ(h:Ok ng gl D G T T' st H){n:Nat}{dst:Option Tmp}{o:Op}{v:ae}{src:List Tmp}(y:xO P gl tk T st dst o=some (v,src,st')):
 ∃a H' G',mX H (so P ng T' o)=some (a,H')/\Ok ng gl D G' (da n (gZ src T) dst v) (cG n T' dst a) st' H'/\cw D G st H G' st' H' (ja .clean) (D6 (.new (VG o)) dst):=by
 unfold xO at y;split at y
 .split at y
  .rename_i t k z hz;split at y
   .rename_i s N;cases y;obtain⟨za,J,_,S,z4,_⟩:=MR (ρ:=cut (D+1) G.ρ) (I:=G.I) hz;obtain⟨G',M,L⟩:=Nb (n:=n) (dst:=some k) (src:=[]) h N S (λ j es z c A F=>.inl (z4 j es z c A F)) (v:=.ptr st.up.length k 0) (a:=.ptr H.next 0) (λ ρ' e=>by simp only[aA];exact⟨H.next,by unfold cut;rw[ao (by rw[h.gC];omega),h.gC];exact e,rfl⟩) (iF (by simp) rfl)
    exact⟨_,_,G',by simp only[so,pW,J,mX,tf],M,L.kV (λ _ _ e=>e) (λ _ e=>by show some _=some _;rw[e])⟩
   cases y
  cases y
 .rename_i x;split at y
  .rename_i k w hw;split at y
   .rename_i s ht N;cases y;obtain⟨a,h1,h2,h3⟩:=gq h.tmp h.iA hw;have hc:=BV h2 ht;have y:∀ρ':Bx,ρ' D k=some H.next->aA (cut (D+1) ρ') G.I (.ptr st.up.length k 0) (.ptr H.next 0):=λ ρ' e=>by simp only[aA];exact⟨H.next,by unfold cut;rw[ao (by rw[h.gC];omega),h.gC];exact e,rfl⟩
    cases tk
    .have ag:(bD w).fw=false:=by cases w<;>simp_all [bD,ae.fw]
     obtain⟨G',M,L⟩:=Nb (n:=n) (dst:=some k) (src:=[]) h N (BV (nu h2) ag) (λ j es z c A F=>.inl (pw j es z c A F)) y (iF (by simp) rfl);exact⟨_,_,G',by simp only[so,pW,h1,mX,tf],M,L.kV (λ _ _ e=>e) (λ _ e=>by show some _=some _;rw[e])⟩
    obtain⟨G',M,L⟩:=Nb (n:=n) (dst:=some k) (src:=jB x) h N hc (λ j es z c A F=>by
     rcases h3 j es z c A F with q|⟨t',rfl,q⟩
     .exact .inl q
     grind[jB]) y (iF (by simp) rfl)
    exact⟨_,_,G',by simp only[so,pW,h1,mX,tf],M,L.kV (λ _ _ e=>e) (λ _ e=>by show some _=some _;rw[e])⟩
   cases y
  cases y
 .rename_i t m ps;split at y
  .rename_i l sz al z hl hq hz;split at y
   .rename_i hc;split at y
    .rename_i es he;cases y;obtain⟨te,ti,q1,Z,q3,q4,q5,q6⟩:=DH hq;obtain⟨ad,ac,za,J,Y,S,z4,z5,z6⟩:=RX (ρ:=cut (D+1) G.ρ) (I:=G.I) hz;rw[q1]at J;cases J;rw[Z]at Y;cases Y;obtain⟨Z9,p1,p2⟩:=PZ h.tmp h.iA hl;have K:=Dw z6 hc.2;have ab:=aep (I:=G.I) (sz:=sz) K (by rw[aF];omega) m;obtain⟨cells,f1,f2,f3⟩:=Y4 p2 ab he;rw[om]at f3;have ap:=uz f2;refine⟨.slice H.next 0 m none,alloc H cells true sz,yd G H cells true sz ((fS n dst).map λ i=>.tmp D i 0) (tl D (fS n dst)),?_,⟨h.bN.wV λ _ _ _=>rfl,?_,h.gC,h.iA.mono (wH h.bN _ _ _ _ _)⟩,cw.wV h.bN S3⟩;.simp only[so,p1,nM,q1,Z,S,q3];grind[Nat.beq_refl,Nat.ble_eq_true_of_le,mX,tf]
     have hI:(yd G H cells true sz ((fS n dst).map λ i=>.tmp D i 0) (tl D (fS n dst))).I H.next=some (newRow H cells true sz):=by show(if H.next=H.next then _ else _)=_;rw[ao rfl]
     refine h.tmp.step (src:=[]) (kt.refl _) (wH h.bN _ _ _ _ _) ?_ (λ i hi j ak af c A F=>?_) λ i j ak af c _ hd ho=>ho.wV h.bN ?_
     .show RP _ (.sl es none) _;simp only[RP];refine .inr ⟨H.next,0,none,newRow H cells true sz,sz,by rw[f3],hI,.inr ⟨rfl,rfl⟩,?_,?_⟩;.simp only[newRow];omega
      simp only[newRow,cM];rw[mB (by omega)];exact AZ (wH h.bN _ _ _ _ _) _ _ _ f2
     .cases j
      .simp[ae.cells]at A;simp[aa.cells]at F;obtain⟨rfl,rfl⟩:=A;subst F;refine .inr ⟨H.next,0,newRow H cells true sz,by rw[f3],hI,rfl,q6,rfl,?_,?_,?_⟩;.simp only[newRow];omega
       .show(if H.next=H.next then _ else _)=_;rw[ao rfl,hi];rfl
       show(if H.next=H.next then _ else _)=_;rw[ao rfl];simp[newRow]
      rename_i j;simp[ae.cells]at A
     grind[tl]
    cases y
   cases y
  cases y
 .rename_i t l c;split at y
  .rename_i k m m' sz al z hl hm hq hz;split at y
   .rename_i hc;obtain⟨rfl,aj,ar,ai,am⟩:=hc;split at y
    .rename_i s N;cases y;obtain⟨te,ti,q1,Z,q3,q4,q5,q6⟩:=DH hq;obtain⟨ad,ac,za,J,Y,S,z4,z5,z6⟩:=RX (ρ:=cut (D+1) G.ρ) (I:=G.I) hz;rw[q1]at J;cases J;rw[Z]at Y;cases Y;obtain⟨a1,h1,h2,_⟩:=gq h.tmp h.iA hl;obtain⟨a2,h3,h4,_⟩:=gq h.tmp h.iA hm;simp only[aA]at h2 h4;obtain⟨rfl,_⟩:=h2;obtain⟨rfl,_⟩:=h4;have K:=aea (I:=G.I) (Dw z6 ai) m
     obtain⟨G',M,L⟩:=Nb (n:=n) (dst:=some k) (src:=[]) h N (B0 K) (λ j es z' c A F=>by
      exfalso;have an:(.sl es (some z'))∈(List.replicate m (z.map di)).flatten:=jm A;grind[List.mem_flatten,Ts]) (v:=.ms st.up.length k m sz) (a:=.slice H.next 0 m none) (λ ρ' e=>by
      simp only[aA];exact⟨H.next,by unfold cut;rw[ao (by rw[h.gC];omega),h.gC];exact e,rfl⟩) (iF (by simp) rfl)
     refine⟨_,_,G',?_,M,L.kV (λ _ _ e=>e) (λ _ e=>by show some _=some _;rw[e])⟩;simp only[so,h1,h3,wQ,q1,Z,S];have hb:m*ti.bytes<=eJ:=by have:m*ti.bytes<=1073741824*1024:=Ib aj (by omega);unfold eJ;omega
     grind[Nat.beq_refl,Nat.ble_eq_true_of_le,eJ,mX,tf]
    cases y
   cases y
  cases y
 .cases y
end
section
variable{es:aS}{sf:bX}{φ:bX->Option bX}
variable{P:Program}{ng:Nat}{gl:aM}{G:Gh}{D:Nat}{T:VT}{T':Tr aa}{st:aq}{H:ah}{ρ:Bx}{I:Im}
theorem aa2{objs:Tr Row}{lo:Nat}:∀{mem:List Nat},(∀u∈mem,∀ru,objs.get u=some ru->ru.start+ru.cells.length<=lo)->mG objs lo mem=objs
 |[],_=>rfl
 |u::us,h=>by
  have y:=aa2 (objs:=objs) (lo:=lo) (mem:=us) λ w q=>h w (cz _ q)
  grind[mG,Nat.ble_eq_true_of_le]
theorem Xm{objs:Tr Row}{v lo hi:Nat}:∀{mem:List Nat},(∀u∈mem,∀ru,objs.get u=some ru->ru.start+ru.cells.length<=lo)->jF objs v lo hi mem=objs
 |[],_=>rfl
 |u::us,h=>by
  have y:=Xm (objs:=objs) (v:=v) (lo:=lo) (hi:=hi) (mem:=us) λ w q=>h w (cz _ q)
  grind[jF,Nat.ble_eq_true_of_le]
structure HEq (H H':ah):Prop where
 objs:∀u,H'.objs.get u=H.objs.get u
 aG:∀f,H'.aG.get f=H.aG.get f
 next:H'.next=H.next
def cn.heq{H':ah}(h:cn G st H)(e:HEq H H'):cn G st H' where
 gd:=⟨λ u r k=>by rw[e.objs]at k;rw[e.next];exact h.wf u r k,λ f mem u r a b c=>by
  rw[e.aG]at a;rw[e.objs]at c;exact h.gd.aC f mem u r a b c,λ f mem a=>by
  rw[e.aG]at a;rw[e.next];exact h.gd.mem f mem a⟩
 fJ:=λ u r k=>by rw[e.objs];exact h.fJ u r k
 box:=λ d k cs g=>by obtain⟨u,r,b⟩:=h.box d k cs g;exact⟨u,r,{b with row:=by rw[e.objs];exact b.row,mem:=by rw[e.aG];exact b.mem}⟩
 inj:=h.inj
 lq:=λ d k u k'=>by rw[e.next];exact h.lq d k u k'
 aC:=λ f s k=>by obtain⟨F,mem,A,h3⟩:=h.aC f s k;exact⟨by rw[e.next];exact F,mem,by rw[e.aG];exact A,λ u y=>⟨by rw[e.next];exact(h3 u y).1,λ ru q=>by rw[e.objs]at q;exact(h3 u y).2 ru q⟩⟩
def Co(G:Gh)(H:ah)(f:Nat)(row:Row)(s:Option bX)(φ:bX->Option bX):Gh where
 ρ:=G.ρ
 I:=λ u=>if u=H.next then some row else G.I u
 own:=λ f'=>if f'=f then s else(G.own f').bind φ
 tp:=λ f'=>if f'=f then row.start+row.cells.length else G.tp f'
def pL(H:ah)(f:Nat)(row:Row)(mem:List Nat):ah:={objs:=H.objs.set H.next (some row),aG:=H.aG.set f (some (H.next::mem)),next:=H.next+1}
theorem Bs{f:Nat}{row:Row}{mem:List Nat}:(pL H f row mem).objs.get u=if u=H.next then some row else H.objs.get u:=by show(H.objs.set H.next _).get u=_;grind[Tr.fT]
theorem Hh{f:Nat}{row:Row}{mem:List Nat}:(pL H f row mem).aG.get u=if u=f then some (H.next::mem)else H.aG.get u:=by show(H.aG.set f _).get u=_;grind[Tr.fT]
def C1(h:cn G st H)(f:Nat)(row:Row)(s:Option bX)(φ:bX->Option bX):cu G.I (Co G H f row s φ).I:=λ u r e=>by show(if u=H.next then _ else G.I u)=some r;rw[aj (by have:=(h.lt e).1;omega)];exact e
theorem jg.pL(h:cn G st H){f:Nat}{row:Row}{s0:Option bX}{s s':bX}(S:G.own f=some sf)(y:s≠sf)(k:jg G s es sz a)(e:φ s=some s'):jg (Co G H f row s0 φ) s' es sz a:=by
 rcases k with k|⟨v,off,r,N,M,h3,L,K,J,F,A⟩
 .exact .inl k
 have q:r.aC≠f:=λ e=>by grind
 refine .inr ⟨v,off,r,N,C1 h _ _ _ _ v r M,h3,L,K,J,?_,?_⟩;.show(if r.aC=f then s0 else(G.own r.aC).bind φ)=some s';rw[aj q,F];exact e
 show(if r.aC=f then _ else G.tp r.aC)=_;rw[aj q];exact A
theorem cn.pL(h:cn G st H){f:Nat}{row:Row}{mem:List Nat}{s0:Option bX}{φ:bX->Option bX}(M:G.own f=some sf)(L:∀d k j,sf≠.box d k j)(S:H.aG.get f=some mem)(J:row.aC=f)(ab:G.tp f<=row.start+row.cells.length)
 (K:∀d k j,φ (.box d k j)=some (.box d k j)):cn (Co G H f row s0 φ) st (Abs.pL H f row mem)where
 gd:=by
  refine⟨λ u r e=>?_,λ f' q u r a b c=>?_,λ f' q a=>?_⟩
  .show u<H.next+1/\r.aC<H.next+1;rw[Bs]at e;split at e;.cases e;have:=(h.aC f sf M).1;omega
   have:=h.wf u r e;omega
  .rw[Hh]at a;rw[Bs]at c;split at a
   .rename_i N;cases a;rw[N];split at c;.cases c;exact J
    rename_i y;rcases ck.1 b with rfl|b
    .exact(y rfl).elim
    exact h.gd.aC f mem u r S b c
   have y:=(h.gd.mem f' q a).2 u b;rw[aj (by omega)]at c;exact h.gd.aC f' q u r a b c
  rw[Hh]at a;show f'<H.next+1/\∀u∈q,u<H.next+1;split at a;.rename_i N;cases a;rw[N];obtain⟨m1,Z⟩:=h.gd.mem f mem S;grind
  obtain⟨m1,Z⟩:=h.gd.mem f' q a;grind
 fJ:=λ u r e=>by
  have e:(if u=H.next then some row else G.I u)=some r:=e;rw[Bs];split at e;.grind
  rename_i y;rw[aj y];exact h.fJ u r e
 box:=λ d k cs e=>by
  obtain⟨u,r,b⟩:=h.box d k cs e;have y:=uW.lt h b;have F:u≠f:=λ e=>by have:=b.un;grind
  refine⟨u,r,{ref:=b.ref,row:=?_,rw:=b.rw,sz:=b.sz,aC:=b.aC,mem:=?_,im:=?_,un:=?_,cells:=xR (kt.refl _) (C1 h _ _ _ _) _ _ b.cells,cell:=b.cell,own:=λ j es sz a e1 e2=>(b.own j es sz a e1 e2).pL h M (λ e=>L _ _ _ e.symm) (K _ _ _)}⟩;.rw[Bs,aj (by omega)];exact b.row
  .rw[Hh,aj F];exact b.mem
  .show(if u=H.next then _ else G.I u)=none;rw[aj (by omega)];exact b.im
  show(if u=f then s0 else(G.own u).bind φ)=none;rw[aj F,b.un];rfl
 inj:=h.inj
 lq:=λ d k u e=>iq (h.lq d k u e)
 aC:=λ f' s e=>by
  have e:(if f'=f then s0 else(G.own f').bind φ)=some s:=e;show f'<H.next+1/\∃m,(Abs.pL H f row mem).aG.get f'=some m/\∀u∈m,u<H.next+1/\∀ru,(Abs.pL H f row mem).objs.get u=some ru->ru.start+ru.cells.length<=(if f'=f then row.start+row.cells.length else G.tp f');rw[Hh];split at e;.rename_i A;subst A;obtain⟨h1,m,Y,h3⟩:=h.aC _ sf M;grind[Bs]
  rename_i A;obtain⟨h1,m,Y,h3⟩:=h.aC.eG (φ:=φ) f' s e;refine⟨by omega,m,by rw[aj A];exact Y,λ u y=>⟨by have:=(h3 u y).1;omega,λ ru e=>?_⟩⟩;rw[Bs,aj (by have:=(h3 u y).1;omega)]at e;rw[aj A];exact(h3 u y).2 ru e
theorem cw.pL(h:cn G st H){f:Nat}{row:Row}{mem:List Nat}{s0:Option bX}{φ:bX->Option bX}(M:G.own f=some sf)(F:¬rV D sf)(y:∀s,rV D s->φ s=some s):cw D G st H (Co G H f row s0 φ) st (Abs.pL H f row mem) tch qq where
 im:=C1 h _ _ _ _
 mh:=λ _ _ _=>rfl
 nq:=λ _ _=>rfl
 live:=λ d k u e K _=>⟨e,K⟩
 next:=jl _
 rows:=λ u A=>.inl (by rw[Bs,aj (by omega)])
 sD:=λ f' s L e=>by
  have q:f'≠f:=λ e'=>by grind
  refine⟨?_,?_⟩;.show(if f'=f then s0 else(G.own f').bind φ)=some s;grind
  show(if f'=f then _ else G.tp f')=_;rw[aj q]
 uk:=rfl
 nJ:=λ u r e A=>by have e:(if u=H.next then some row else G.I u)=some r:=e;grind
 qM:=λ f' s e J=>by
  have e:(if f'=f then s0 else(G.own f').bind φ)=some s:=e;split at e;.grind
  exact xK (G:=G) (φ:=φ) e
 aG:=λ f' _ e=>by grind[Hh]
theorem axr(h:cn G st H){x:ae}{new:aS}(J:aA (cut (D+1) G.ρ) G.I x a)(y:IN st x=some new)(hs:fR sz new=true):∃cs,lenOf a=some new.length/\eR H.objs.get sz new.length a=some cs/\bR G.I sz new cs:=by
 unfold IN at y;split at y
 .rename_i es o;cases y;have J:RP G.I (.sl new none) a:=J;simp only[RP]at J;rcases J with⟨rfl,rfl|rfl⟩|⟨u,off,ad,r,q,rfl,k1,k2,k3,k4⟩
  .exact⟨[],rfl,rfl,by simp[bR]⟩
  .exact⟨[],rfl,rfl,by simp[bR]⟩
  have hr:=h.fJ u r k1;cases new;.refine⟨[],rfl,?_,by simp[bR]⟩;simp only[eR,dG,Vu,bq,hr];grind[Nat.ble_eq_true_of_le]
  rename_i e es;have A:q=sz:=by grind[Tu]
  subst A;refine⟨_,rfl,?_,k4⟩;grind[eR,bq,Nat.ble_eq_true_of_le]
 .rename_i d k len q;split at y
  .rename_i cs ab;split at y
   .rename_i hd Z;cases y;simp only[aA]at J;obtain⟨u,hu,rfl⟩:=J;have af:G.ρ d k=some u:=GC _ _ _ _ _ hu;obtain⟨u2,r,K⟩:=h.box d k cs ab;have:u2=u:=by have:=K.ref;grind
    subst this;have Z:len*q=cs.length:=by simpa using Z
    have Y:=Dw K.cells hd;have ag:=pz K.cells
    have M:∀(n:Nat) (vs:List ae) (bs:List aa),cE G.I vs bs->vs.length=n*q->bR G.I q (mO q n vs) bs:=by
     intro n;induction n with
     |zero=>
      intro vs bs L F;have S:vs=[]:=km (by simpa using F);subst S;rw[zR.1 L];simp[mO,bR]
     |succ n N=>
      intro vs bs L F;rw[xy]at F;refine nt.2 ⟨by rw[n8];omega,aaV _ L,N _ _ (Zg _ L) (by rw[xz];omega)⟩
    have hk:=M len (cs.map di) r.cells Y (by simpa using Z.symm)
    have ac:(mO q len (cs.map di)).length=len:=by
     have:∀(n:Nat) (vs:List ae),(mO q n vs).length=n:=by
      intro n;induction n with
      |zero=>intro vs;rfl
      |succ n N=>intro vs;simp[mO,N]
     exact this _ _
    rw[ac];cases len;.refine⟨[],rfl,?_,by simp[mO,bR]⟩;simp only[eR,bq,K.row,uh];grind[Nat.ble_eq_true_of_le]
    rename_i n;have A:q=sz:=by grind[Tu]
    subst A;refine⟨r.cells,rfl,?_,hk⟩;simp only[eR,Vu,bq,K.row];grind[Nat.ble_eq_true_of_le]
   cases y
  cases y
 cases y
theorem anI{bs:List aa}(h:bR I sz es bs)(y:0<sz)(q:es≠[]):bs≠[]:=by
 intro e;have:=uz h;rw[e]at this;cases es;.exact q rfl
 rename_i a es;grind[Nat.succ_mul]
theorem abj:∀{es:aS} {bs:List aa},bR I sz es bs->bs.all aa.eh=true
 |[],_,h=>by rw[GN.1 h];rfl
 |e::es,bs,h=>by obtain⟨y,q,h3⟩:=nt.1 h;have a:=Rx (B0 (ρ:=λ _ _=>none) q) (KT q).2.2;have b:=abj h3;grind[List.take_append_drop]
theorem awX(h:Ok ng gl D G T T' st H){n:Nat}{dst:Option Tmp}{ts:List TypeId}{x:Operand}{s y v:ae}{Z9 ay:aa}(hs:aA (cut (D+1) G.ρ) G.I s Z9)(ho:rf G D x s.cells Z9.cells)(hy:aA (cut (D+1) G.ρ) G.I y ay)
 (hv:Hv P st ts s y=some v):∃a H' G',jM P H ts [Z9,ay]=some (a,H')/\Ok ng gl D G' (da n (gZ (jB x) T) dst v) (cG n T' dst a) st H'/\cw D G st H G' st H' (ja .clean) qq:=by
 unfold Hv at hv;split at hv
 .rename_i t u es z;split at hv
  .rename_i sz ad zc hq hz hu;split at hv
   .rename_i new al;split at hv
    .rename_i hc;cases hv;obtain⟨c1,c2,c3,c4⟩:=hc;obtain⟨te,ti,q1,q2,q3,q4,q5,q6⟩:=DH hq;obtain⟨aJ,aI,za,z1,z2,z3,z4,z5,z6⟩:=RX (ρ:=cut (D+1) G.ρ) (I:=G.I) hz;rw[q1]at z1;cases z1;rw[q2]at z2;cases z2;obtain⟨nc,n1,n2,n3⟩:=axr h.bN hy al c4;have aH:=uz n3;unfold tD at hu;split at hu
     .rename_i ue aL;have aP:Nat.beq za.cells.length sz=true:=by grind[Nat.beq_refl]
      have aK:Nat.beq sz 0=false:=by rw[<-q3];exact q5
      have hB:jM P H [t,u] [Z9,ay]=gm H sz ad Z9 new.length nc:=by grind[jM]
      rw[hB];have aE:(es.length+new.length)*ad<=eJ:=by have:(es.length+new.length)*ad<=1073741824*1024:=Ib c3 c2;unfold eJ;omega
      have aD:es.length+new.length<=eJ:=by unfold eJ;omega
      have Y:(es=[]/\Z9=.ai)\/∃t',x=.tmp t'/\jg G (.tmp D t' 0) es z Z9:=by
       have aj:Z9.cells[0]? =some Z9:=by have S:RP G.I (.sl es none) Z9:=hs;simp only[RP]at S;rcases S with⟨_,rfl|rfl⟩|⟨_,_,_,_,_,rfl,_⟩<;>rfl
       exact ho 0 es z Z9 rfl aj
      have fresh:∀(q:List aa) (ex:Bool),bR G.I sz es q->new≠[]->∃G',Ok ng gl D G' (da n (gZ (jB x) T) dst (.sl (es++new) (some sz))) (cG n T' dst (.slice H.next 0 (es.length+new.length) none)) st (alloc H (q++nc) ex sz)/\cw D G st H G' st (alloc H (q++nc) ex sz) (ja .clean) qq:=by
       intro q ex A av;have F:=Rf A n3;have ac:=uz F;rw[dM]at ac;have hI:(yd G H (q++nc) ex sz ((fS n dst).map λ i=>.tmp D i 0) (tl D (fS n dst))).I H.next=some (newRow H (q++nc) ex sz):=by show(if H.next=H.next then _ else _)=_;rw[ao rfl]
       refine⟨yd G H (q++nc) ex sz ((fS n dst).map λ i=>.tmp D i 0) (tl D (fS n dst)),⟨h.bN.wV λ _ _ _=>rfl,?_,h.gC,h.iA.mono (wH h.bN _ _ _ _ _)⟩,cw.wV h.bN S3⟩;refine h.tmp.step (kt.refl _) (wH h.bN _ _ _ _ _) ?_ (λ i hi j M J c K N=>?_) λ i j M J c _ hd ho=>ho.wV h.bN ?_
       .show RP _ (.sl (es++new) none) _;simp only[RP];refine .inr ⟨H.next,0,none,newRow H (q++nc) ex sz,sz,by rw[dM],hI,.inr ⟨rfl,rfl⟩,?_,?_⟩;.grind[newRow]
        simp only[newRow,cM];rw[mB (by rw[dM];omega)];exact AZ (wH h.bN _ _ _ _ _) _ _ _ F
       .cases j
        .simp[ae.cells]at K;simp[aa.cells]at N;obtain⟨rfl,rfl⟩:=K;subst N;refine .inr ⟨H.next,0,newRow H (q++nc) ex sz,by rw[dM],hI,rfl,q6,rfl,?_,?_,?_⟩;.grind[newRow]
         .show(if H.next=H.next then _ else _)=_;rw[ao rfl,hi];rfl
         show(if H.next=H.next then _ else _)=_;rw[ao rfl];simp[newRow]
        rename_i j;simp[ae.cells]at K
       grind[tl]
      rcases Y with⟨rfl,rfl⟩|⟨t',rfl,Y⟩
      ·
       cases new
       .obtain⟨G',L,g2⟩:=stepT (n:=n) (dst:=dst) h (src:=jB x) (v:=.sl [] (some sz)) (a:=.ai) ⟨by simp[aA,RP],λ _ _=>none,λ j M J c K N=>by grind[ae.cells,aa.cells]⟩
        exact⟨.ai,H,G',by simp[gm,lenOf,hY],L,g2⟩
       rename_i e new;obtain⟨G',L,g2⟩:=fresh [] false (by simp[bR]) (by simp);grind[gm,lenOf,hY,Nat.ble,eR,Nat.ble_eq_true_of_le]
      rcases Y with⟨rfl,rfl⟩|⟨w,off,r,rfl,k1,k2,k3,k4,k5,k6,k7⟩
      .cases new
       .obtain⟨G',L,g2⟩:=stepT (n:=n) (dst:=dst) h (src:=jB (.tmp t')) (v:=.sl [] (some sz)) (a:=.ai) ⟨by simp[aA,RP],λ _ _=>none,λ j M J c K N=>by grind[ae.cells,aa.cells]⟩
        exact⟨.ai,H,G',by simp[gm,lenOf,hY],L,g2⟩
       rename_i e new;obtain⟨G',L,g2⟩:=fresh [] false (by simp[bR]) (by simp);grind[gm,lenOf,hY,Nat.ble,eR,Nat.ble_eq_true_of_le]
      have an:z=sz:=by grind
      subst an;have hr:=h.bN.fJ w r k1;obtain⟨aO,mem,ag,aN⟩:=h.bN.aC _ _ k6;have S:RP G.I (.sl es none) (.slice w off es.length none):=hs
      have A:bR G.I z es ((r.cells.drop off).take (es.length*z)):=by
       simp only[RP]at S;rcases S with⟨_,e|e⟩|⟨w',aF,lim',r',J,e,L,g2,g3,g4⟩
       .cases e
       .cases e
       injection e with K N e3 e4;subst K N e4;rw[k1]at L;cases L;rcases g2 with rfl|⟨_,g2⟩
       .simp[bR]
       grind
      have af:hY H.objs.get z (.slice w off es.length none)=some (r.exact,es.length):=by simp only[hY,hr];grind[Nat.ble_eq_true_of_le,Nat.mul_div_cancel]
      cases new
      .have aw:nc=[]:=by simpa[bR]using n3
       subst aw;have Z:∀u∈mem,∀ru,H.objs.get u=some ru->ru.start+ru.cells.length<=r.start+(off+es.length*z):=by grind
       have ak:ep r.cells (off+es.length*z) []=r.cells:=by simp[ep]
       have ap:gM H w (off+es.length*z) []=some {H with objs:=H.objs.set w (some r)}:=by unfold gM;rw[hr];simp only[k4,ag,Vr,dG];rw[b9 (by omega)];simp only;rw[Xm Z,ak];rw[show(some r:Option Row)=some {cells:=r.cells,aC:=r.aC,start:=r.start,exact:=r.exact,ro:=false,sz:=r.sz}from by rw[<-k4]]
       have heq:HEq H {H with objs:=H.objs.set w (some r)}:=⟨λ u=>by grind[Tr.fT],λ _=>rfl,rfl⟩
       obtain⟨G',L,g2⟩:=stepT (n:=n) (dst:=dst) h (src:=[t']) (v:=.sl es (some z)) (a:=.slice w off es.length none) ⟨hs,λ _ j=>some j,λ j M J c K N=>by
        cases j;.simp[ae.cells]at K;simp[aa.cells]at N;obtain⟨rfl,rfl⟩:=K;subst N;exact .inr ⟨t',by simp,0,rfl,.inr ⟨w,off,r,rfl,k1,k2,k3,k4,k5,k6,k7⟩⟩
        rename_i j;simp[ae.cells]at K⟩
       refine⟨.slice w off es.length none,{H with objs:=H.objs.set w (some r)},G',?_,⟨L.bN.heq heq,?_,L.gC,L.iA⟩,?_⟩
       rotate_left
       .rw[oq];exact L.tmp
       .exact{g2 with next:=be _,rows:=λ u _=>.inl (heq.objs u),aG:=λ f _ _=>heq.aG f}
       simp only[gm,lenOf,af,dG,nY,Vu,ap]
      rename_i e new
      have ax:Nat.ble (es.length+(e::new).length) es.length=false:=by
       cases hb:Nat.ble (es.length+(e::new).length) es.length;.rfl
       have:=Vf hb;grind
      have ar:eR H.objs.get z es.length (.slice w off es.length none)=some ((r.cells.drop off).take (es.length*z)):=by grind[eR,Nat.ble_self_eq_true,bq]
      have av:nc≠[]:=anI n3 k3 (by simp);cases aB:r.exact with
      |true=>
       obtain⟨G',L,g2⟩:=fresh _ false A (by simp);grind[gm,lenOf,Nat.ble_eq_true_of_le]
      |false=>
       have F:=Rf A n3;have ac:=uz F;rw[@dM _ es]at ac;have au:=uz A;have Z:∀u∈mem,∀ru,H.objs.get u=some ru->ru.start+ru.cells.length<=r.start+off+es.length*z:=by grind
       let row:Row:={cells:=(r.cells.drop off).take (es.length*z)++nc,aC:=r.aC,start:=r.start+off,exact:=false,ro:=false,sz:=z}
       have ab:row.cells.length=(es.length+(e::new).length)*z:=ac;have am:gm H z ad (.slice w off es.length none) (e::new).length nc=some (.slice H.next 0 (es.length+(e::new).length) none,Abs.pL H r.aC row mem):=by simp only[gm,lenOf,af,aB];rw[ax];simp only[ar];rw[b9 aE,b9 aD];simp only[aiz,hr,k4,abj n3,ag];rw[aa2 Z];rfl
       have az:G.tp r.aC<=row.start+row.cells.length:=by grind
       have hI:(Co G H r.aC row ((fS n dst).map λ i=>.tmp D i 0) (tl D (fS n dst))).I H.next=some row:=by show(if H.next=H.next then _ else _)=_;rw[ao rfl]
       refine⟨_,_,Co G H r.aC row ((fS n dst).map λ i=>.tmp D i 0) (tl D (fS n dst)),am,⟨h.bN.pL k6 (by simp) ag rfl az λ _ _ _=>rfl,?_,h.gC,h.iA.mono (C1 h.bN _ _ _ _)⟩,cw.pL h.bN k6 (by simp[rV]) S3⟩;refine h.tmp.step (kt.refl _) (C1 h.bN _ _ _ _) ?_ (λ i hi j M J c K N=>?_) λ i j M J c hi hd ho=>ho.pL h.bN k6 ?_ ?_
       .show RP _ (.sl (es++e::new) none) _;simp only[RP];refine .inr ⟨H.next,0,none,row,z,by rw[dM],hI,.inr ⟨rfl,rfl⟩,?_,?_⟩;.rw[ab,dM];omega
        rw[cM,mB (by rw[ab,dM];omega)];exact AZ (C1 h.bN _ _ _ _) _ _ _ F
       .cases j
        .simp[ae.cells]at K;simp[aa.cells]at N;obtain⟨rfl,rfl⟩:=K;subst N;refine .inr ⟨H.next,0,row,by rw[dM];rfl,hI,rfl,k3,rfl,?_,?_,?_⟩;.rw[ab,dM];omega
         .show(if row.aC=r.aC then _ else _)=_;rw[ao rfl,hi];rfl
         show(if row.aC=r.aC then _ else _)=_;rw[ao rfl]
        rename_i j;simp[ae.cells]at K
       .grind[jB]
       grind[tl]
     cases hu
    cases hv
   cases hv
  cases hv
 .cases hv
end
end
end Go.Abs
