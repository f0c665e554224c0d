/- The value machine. -/
import Derived.Test.YtkhnencepibcpaaGreatB
set_option linter.all false
open Bool renaming false->W,true->V
open List renaming drop_drop->acs,drop_take->amQ,replicate->ef,take_append_drop->ahy
open Nat renaming beq->gr,beq_refl->abN,ble->th,ble_eq_true_of_le->hP,ble_self_eq_true->ard,succ_mul->akW
open Option renaming none->X,some->O
open _root_ renaming Bool->mi,False->awk,List->B,Nat->R,Option->gw,rfl->Q,trivial->sp
namespace Go.Abs
noncomputable section
open Go
variable{H2:aj}{a b:au}{aah:aF}{d d' i k k' n off sz u:R}{dst:fV}{ex tk:mi}{p:Prop}{r:Row}{s t:bj}{src:lC}{tch:EJ}{α:Type}
inductive ak where
 |sc (a:au)
 |ptr (d k off:R)
 |rp (cs:B ak) (off:R)
 |sl (es:B (B ak)) (own:gw R)
 |ms (d k len sz:R)
 |fn (f:FuncId) (cap:B ak)
 |agg (cs:B ak)
 |bp (vs:B ak)
 |un
abbrev be:=B ak
abbrev q9:=B (R×ak)
abbrev fN:=gw ak
abbrev GS:=gw (ak×mi)
abbrev rI:=gw be
abbrev xH:=B (R×be)
abbrev gC:=B xH
abbrev Cb:=gw (ak×gC×mi)
abbrev TC:=ak×gC×mi
structure aG where
 w:mi
 cur:xH
 up:gC
abbrev Gc:=gw (ak×lY×aG)
abbrev MK:=gw (aG×R×R)
abbrev VT:=q9
abbrev qe:=gw (VT×aG)
abbrev aP:=B be
abbrev Eg:=gw aP
abbrev bH:=R->rI
abbrev fi:=ck->be->fN
abbrev ez(c:xH)(u:gC):aG:=⟨W,c,u⟩
abbrev eE:=ck->be->gC->Cb
abbrev aEI:=R->eE
def ak.undef:ak:=.bp []
def ak.cells:ak->be
 |.agg u=>u
 |v=>[v]
def ak.ji:ak->mi
 |.bp _=>V
 |.un=>V
 |_=>W
def ak.cell:ak->mi
 |.agg _=>W
 |.bp _=>W
 |.un=>W
 |_=>V
def ak.data:ak->mi
 |.sc _=>V
 |.sl _ _=>V
 |_=>W
def eZ:ak->ak
 |.sl es _=>.sl es X
 |v=>v
def dg:ak->ak
 |.sl es _=>.sl es X
 |.agg u=>.agg (u.map eZ)
 |v=>v
def jP:au->mi
 |.bool _=>V
 |.int _ _=>V
 |.str _=>V
 |.fq=>V
 |.nilFunc=>V
 |.iface=>V
 |.slice _ _ _ _=>V
 |_=>W
def lk{α:Type}:B (R×α)->R->gw α
 |[],_=>X
 |(i,v)::l,j=>if i=j then O v else lk l j
def mq(T:VT)(i:R):ak:=match lk T i with|O v=>v|X=>.bp []
def jW:gC->R->bH
 |[],_,_=>X
 |F::S,d,k=>if d=S.length then lk F k else jW S d k
def cu(st:aG)(d k:R):rI:=if d=st.up.length then lk st.cur k else jW st.up d k
def uu(F:xH)(k:R)(u:be):xH:=F.map λ p=>if p.1=k then(k,u)else p
def qm:gC->R->R->be->gC
 |[],_,_,_=>[]
 |F::S,d,k,u=>if d=S.length then uu F k u::S else F::qm S d k u
def tv(st:aG)(d k:R)(cs:be):aG:=if d=st.up.length then{st with cur:=uu st.cur k cs}else{st with w:=V,up:=qm st.up d k cs}
def tR(st:aG)(d k:R)(cs:be):aG:=if d=st.up.length then{st with cur:=uu st.cur k cs}else{st with up:=qm st.up d k cs}
mutual
def qy(d k:R):ak->mi
 |.ptr d' k' _=> !(k'==k&&d'==d)
 |.ms d' k' _ _=> !(k'==k&&d'==d)
 |.fn _ cs=>qd d k cs
 |.agg cs=>qd d k cs
 |.bp cs=>qd d k cs
 |_=>V
def qd(d k:R):B ak->mi
 |[]=>V
 |v::vs=>qy d k v&&qd d k vs
end
def wz(d k:R):VT->mi
 |[]=>V
 |(_,v)::T=>qy d k v&&wz d k T
def xO(d k:R):xH->mi
 |[]=>V
 |(_,u)::F=>qd d k u&&xO d k F
def np{α:Type}(k:R)(F:B (R×α)):B (R×α):=F.filter λ p=> !(p.1==k)
def iX(T:VT)(st:aG)(k:R)(u:be):gw aG:=
 match wz st.up.length k T&&xO st.up.length k (np k st.cur)&&qd st.up.length k u&&u.all ak.cell with
 |V=>O {st with cur:=(k,u)::np k st.cur}
 |W=>X
def NG:au->fN
 |.aq=>O (.sl [] (O 0))
 |.func f [] []=>O (.fn f [])
 |a=>match jP a with|V=>O (.sc a)|W=>X
def TD:aF->rI
 |[]=>O []
 |a::aah=>match NG a,TD aah with
  |O v,O l=>O (v::l)
  |_,_=>X
def lZ:au->fN
 |.agg u=>match TD u with|O l=>O (.agg l)|X=>X
 |a=>NG a
def zc(P:aA):R->bj->rI
 |0,_=>X
 |n+1,t=>match P.underlying t with
  |O (.slice e)=>match P.info? e with|O i=>O [.sl [] (O i.size)]|X=>X
  |O (.struct fs)=>fs.toList.foldr (λ f r=>match zc P n f.type,r with|O a,O l=>O (a++l)|_,_=>X) (O [])
  |O (.array m e)=>match zc P n e with|O a=>O (ef m a).flatten|X=>X
  |_=>match fW P t with|O a=>(match NG a with|O v=>O [v]|X=>X)|X=>X
def wE:aF->be->mi
 |[],[]=>V
 |.aq::aah,.sl [] (O _)::u=>wE aah u
 |.bool a::aah,.sc (.bool b)::u=>a==b&&wE aah u
 |.int j a::aah,.sc (.int k b)::u=>decide (j=k)&&decide (a=b)&&wE aah u
 |.str a::aah,.sc (.str b)::u=>decide (a=b)&&wE aah u
 |.fq::aah,.sc .fq::u=>wE aah u
 |.nilFunc::aah,.sc .nilFunc::u=>wE aah u
 |_,_=>W
def JH:au->mi
 |.agg _=>V
 |_=>W
def qZ(P:aA)(t:bj):fN:=
 match fW P t,zc P 8 t with
 |O a,O u=>match wE a.cells u,JH a,u with
  |V,V,_=>O (.agg u)
  |V,W,[v]=>O v
  |_,_,_=>X
 |_,_=>X
def pZ(P:aA)(t:bj):lY:=
 match P.underlying t with
 |O (.slice e)=>match P.info? e with
  |O i=>match i.size==0 with|W=>O (i.size,i.bytes)|V=>X
  |X=>X
 |_=>X
def GL(P:aA)(t:bj):lY:=
 match P.underlying t with
 |O (.array n e)=>match P.info? e with|O i=>O (n,i.size)|X=>X
 |_=>X
def HK(P:aA)(t:bj):gw (mi×R):=
 match P.underlying t,P.info? t with
 |O d,O i=>O (xm d,i.size)
 |_,_=>X
def Pv(P:aA)(t:bj):bA:=match P.info? t with|O i=>O i.size|X=>X
def Hq(P:aA)(s:bj)(f:R):bA:=
 match P.underlying s with
 |O (.struct fs)=>
  match fs.toList[f]?with
  |O fd=>match P.info? fd.type with
   |O i=>match i.size==0 with|W=>O fd.offset|V=>X
   |X=>X
  |X=>X
 |_=>X
def wg(P:aA)(t:bj):rI:=
 match P.underlying t with
 |O (.slice e)=>match qZ P e,P.info? e with
  |O z,O i=>match z.cells.length==i.size with|V=>O z.cells|W=>X
  |_,_=>X
 |_=>X
def Qd(P:aA):B Field->gw yg
 |[]=>O []
 |f::fs=>match P.info? f.type,Qd P fs with
  |O i,O l=>O ((f.offset,i.size)::l)
  |_,_=>X
def aaf(P:aA)(t:bj):gw (be×yg):=
 match qZ P t,P.underlying t with
 |O (.agg z),O (.struct fs)=>match Qd P fs.toList with|O l=>O (z,l)|X=>X
 |O (.agg z),O (.array _ e)=>match P.info? e with|O _=>O (z,[])|X=>X
 |_,_=>X
def ly(P:aA)(f:ck):Bool:=
 match P.funcs[f]?with
 |O fn=>match fn.body,fn.name== "runtime.NumGoroutine" with|O _,W=>V|_,_=>W
 |X=>W
def wP(P:aA)(t:bj):Bool:=match P.underlying t with|O (.slice _)=>V|_=>W
def eR(u:be)(off:R)(new:be):be:=u.take off++new++u.drop (off+new.length)
def yA(u:be)(off n:R):rI:=if off+n<=u.length then O ((u.drop off).take n)else X
def qx(sz:R):R->be->aP
 |0,_=>[]
 |n+1,u=>u.take sz::qx sz n (u.drop sz)
def gT(gl:bH)(T:VT):eN->fN
 |.tmp t=>O (mq T t)
 |.const v=>match ofValue v with|O a=>lZ a|X=>X
 |.global g=>match gl g with|O u=>O (.rp u 0)|X=>X
 |.func f=>O (.fn f [])
def FM(gl:bH)(T:VT):uF->rI
 |[]=>O []
 |x::l=>match gT gl T x,FM gl T l with
  |O a,O r=>O (a::r)
  |_,_=>X
def Gk(gl:bH)(T:VT):rK->gw q9
 |[]=>O []
 |(i,x)::l=>match gT gl T x,Gk gl T l with
  |O a,O r=>O ((i,a)::r)
  |_,_=>X
def Is(gl:bH)(T:VT):AR->gw fN
 |X=>O X
 |O x=>match gT gl T x with|O a=>O (O a)|X=>X
def mz:eN->lC
 |.tmp t=>[t]
 |_=>[]
def tL:rK->lC
 |[]=>[]
 |(_,x)::l=>mz x++tL l
def Jz:lC->mi
 |[]=>V
 |t::l=> !(l.elem t)&&Jz l
def oZ(u:yg)(cells:be):q9->rI
 |[]=>O cells
 |(i,v)::y=>
  match u[i]?with
  |X=>X
  |O (off,size)=>
   match v.ji,v.cells.length==size,decide (off+size<=cells.length)with
   |W,V,V=>oZ u (eR cells off v.cells) y
   |_,_,_=>X
def sF(sz:R)(es:aP):q9->Eg
 |[]=>O es
 |(i,v)::u=>
  match v.cells.all ak.data,v.cells.length==sz,decide (i<es.length)with
  |V,V,V=>sF sz (es.set i (v.cells.map eZ)) u
  |_,_,_=>X
def G4:ak->bA
 |.sc (.int _ (.ofNat n))=>O n
 |_=>X
def rX:be->sL
 |[]=>O []
 |.sc a::u=>match rX u with|O l=>O (a::l)|X=>X
 |_=>X
def tg:ak->cR
 |.sc a=>O a
 |.agg u=>match rX u with|O l=>O (.agg l)|X=>X
 |_=>X
def fU(P:aA)(u:BinOp)(t:bj)(x y:ak):fN:=
 match tg x,tg y with
 |O a,O b=>match cY P u t a b with|O r=>lZ r|X=>X
 |_,_=>X
def Fp(u:UnOp)(x:ak):fN:=
 match tg x with
 |O a=>match JX u a with|O r=>lZ r|X=>X
 |X=>X
def RX(P:aA)(s d:bj)(x:ak):fN:=
 match tg x with
 |O a=>match sH P s d (O a)with|O r=>lZ r|X=>X
 |X=>X
def EF:ak->ak->ak->fN
 |.sc (.bool V),x,_=>O (dg x)
 |.sc (.bool W),_,y=>O (dg y)
 |_,_,_=>X
def En:ak->fN
 |.ptr d k off=>O (.ptr d k off)
 |.rp u off=>O (.rp u off)
 |.fn f u=>O (.fn f u)
 |_=>X
def Ky(P:aA)(t:bj)(l:q9):fN:=
 match aaf P t with
 |O (z,u)=>match oZ u z l with|O y=>O (.agg y)|X=>X
 |X=>X
def Oh(P:aA)(s:bj)(f:R):ak->fN
 |.ptr d k off=>match Hq P s f with|O o=>O (.ptr d k (off+o))|X=>X
 |.rp u off=>match Hq P s f with|O o=>O (.rp u (off+o))|X=>X
 |_=>X
def Nk(P:aA)(t:bj)(x ix:ak):fN:=
 match G4 ix with
 |X=>X
 |O i=>
  match x with
  |.sl es _=>match pZ P t,es[i]?with
   |O (sz,_),O e=>if e.length=sz then O (.rp e 0)else X
   |_,_=>X
  |.ms d k len sz=>match pZ P t with
   |O (u,_)=>if i<len/\u=sz then O (.ptr d k (i*sz))else X
   |X=>X
  |.ptr d k off=>match GL P t with
   |O (n,sz)=>if i<n then O (.ptr d k (off+i*sz))else X
   |X=>X
  |.rp y off=>match GL P t with
   |O (n,sz)=>if i<n then O (.rp y (off+i*sz))else X
   |X=>X
  |_=>X
def HN(P:aA)(t:bj)(x ix:ak):fN:=
 match tg x,tg ix with
 |O a,O i=>match uw P t a i with|O r=>lZ r|X=>X
 |_,_=>match x,G4 ix,P.underlying t with
  |.agg u,O i,O (.array n e)=>(match P.underlying e,P.info? e with
   |O d,O j=>(match th (i+1) n,xm d with
    |V,V=>O (.agg (((u.drop (i*j.size)).take j.size).map eZ))
    |_,_=>X)
   |_,_=>X)
  |_,_,_=>X
def yM(i:R):ak->fN
 |.bp u=>match u[i]?with|O v=>O (dg v)|X=>X
 |_=>X
def S5(P:aA)(t:bj):ak->fN
 |.sl es _=>match wP P t with|V=>O (.sc (.int .i64 es.length))|W=>X
 |.ms _ _ n _=>match wP P t with|V=>O (.sc (.int .i64 n))|W=>X
 |.sc a=>match dh P t a with|O r=>lZ r|X=>X
 |_=>X
def La:ak->ak->fN
 |.sc (.int k a),.sc (.int _ b)=>O (.sc (.int k (if b<a then b else a)))
 |_,_=>X
def Fx:ak->ak->fN
 |.sc (.int k a),.sc (.int _ b)=>O (.sc (.int k (if a<b then b else a)))
 |_,_=>X
def JU(P:aA)(ty:bj):ak->ak
 |.sl [] (O 0)=>match pZ P ty with|O (sz,_)=>.sl [] (O sz)|X=>.sl [] (O 0)
 |v=>v
def Bz(P:aA)(tk:mi)(ty:bj)(v:ak):ak:=match tk with|V=>JU P ty v|W=>dg v
def pX(P:aA)(gl:bH)(tk:mi)(ty:bj)(T:VT):Op->fN
 |.move x=>match gT gl T x with|O v=>O (Bz P tk ty v)|X=>X
 |.assign x=>match gT gl T x with|O v=>O (Bz P tk ty v)|X=>X
 |.pick c a b=>match gT gl T c,gT gl T a,gT gl T b with|O c,O a,O b=>EF c a b|_,_,_=>X
 |.build t A=>match Gk gl T A.toList with
  |O l=>(match tk with
   |V=>(match Jz (tL A.toList)with|V=>Ky P t l|W=>X)
   |W=>Ky P t (l.map λ p=>(p.1,dg p.2)))
  |X=>X
 |.nilCheck x=>match gT gl T x with|O a=>En a|X=>X
 |.binOp u t x y _=>match gT gl T x,gT gl T y with|O a,O b=>fU P u t a b|_,_=>X
 |.unOp u _ x=>match gT gl T x with|O a=>Fp u a|X=>X
 |.convert s d x=>match gT gl T x with|O a=>RX P s d a|X=>X
 |.makeFunc (.func f) ⟨[]⟩ cap=>match FM gl T cap.toList with|O b=>O (.fn f (b.map dg))|_=>X
 |.fieldAddr s x f=>match gT gl T x with|O a=>Oh P s f a|X=>X
 |.indexAddr t x ix=>match gT gl T x,gT gl T ix with|O a,O i=>Nk P t a i|_,_=>X
 |.index t x ix=>match gT gl T x,gT gl T ix with|O a,O i=>HN P t a i|_,_=>X
 |.extract x i=>match gT gl T x with|O a=>yM i a|X=>X
 |.call {callee:=.builtin .len,args:=⟨[x]⟩,argTypes:=⟨t::_⟩}=>match gT gl T x with|O a=>S5 P t a|X=>X
 |.call {callee:=.builtin .min,args:=⟨[x,y]⟩,..}=>match gT gl T x,gT gl T y with|O a,O b=>La a b|_,_=>X
 |.call {callee:=.builtin .max,args:=⟨[x,y]⟩,..}=>match gT gl T x,gT gl T y with|O a,O b=>Fx a b|_,_=>X
 |_=>X
def pj(tk:mi):Op->lC
 |.move x=>match tk with|V=>mz x|W=>[]
 |.assign x=>match tk with|V=>mz x|W=>[]
 |.build _ u=>match tk with|V=>tL u.toList|W=>[]
 |_=>[]
def Jj(P:aA)(t:bj)(u:be)(off:R):gw (ak×R):=
 match HK P t with
 |O (V,n)=>match yA u off n with|O l=>O (.agg l,n)|X=>X
 |O (W,_)=>match yA u off 1 with|O (c::_)=>O (c,1)|_=>X
 |X=>X
def Ad(P:aA)(tk:mi)(st:aG)(t:bj):ak->Gc
 |.rp u off=>match Jj P t u off with|O (v,_)=>O (dg v,X,st)|X=>X
 |.ptr d k off=>match cu st d k with
  |O u=>match Jj P t u off with
   |O (v,n)=>(match tk with
    |V=>O (v,O (d,k),tR st d k (eR u off (((u.drop off).take n).map eZ)))
    |W=>O (dg v,O (d,k),st))
   |X=>X
  |X=>X
 |_=>X
def km(sz:R)(es:aP):Bool:=es.all λ e=>e.length==sz
def oI(x:fN)(d:R):bA:=
 match x with
 |X=>O d
 |O v=>G4 v
def Fz(P:aA)(t:bj)(x:ak)(lo u:fN):fN:=
 match x with
 |.sl es _=>
  match pZ P t,oI lo 0,oI u es.length with
  |O (sz,_),O l,O h=>if l<=h/\h<=es.length/\km sz es=V then O (.sl ((es.drop l).take (h-l)) X)else X
  |_,_,_=>X
 |.sc (.str s)=>
  match P.underlying t,oI lo 0,oI u s.length with
  |O .string,O l,O h=>if l<=h/\h<=s.length then O (.sc (.str ((s.drop l).take (h-l))))else X
  |_,_,_=>X
 |_=>X
def Di(P:aA)(gl:bH)(tk:mi)(T:VT)(st:aG)(dst:fV):Op->gw (ak×lC×aG)
 |.alloc t=>match dst,qZ P t with
  |O k,O z=>(match iX T st k z.cells with|O u=>O (.ptr st.up.length k 0,[],u)|X=>X)
  |_,_=>X
 |.box _ x=>match dst,gT gl T x with
  |O k,O v=>
   (match v.ji,iX T st k (match tk with|V=>v.cells|W=>(dg v).cells)with
    |W,O u=>O (.ptr st.up.length k 0,(match tk with|V=>mz x|W=>[]),u)
    |_,_=>X)
  |_,_=>X
 |.buildSlice t n A=>
  match Gk gl T A.toList,pZ P t,wg P t with
  |O l,O (sz,_),O z=>if n*sz<=16777216/\z.all ak.data=V then(match sF sz (ef n (z.map eZ)) l with|O es=>O (.sl es (O sz),[],st)|X=>X)else X
  |_,_,_=>X
 |.makeSlice t l c=>
  match dst,gT gl T l,gT gl T c,pZ P t,wg P t with
  |O k,O (.sc (.int .i64 (.ofNat n))),O (.sc (.int .i64 (.ofNat m))),O (sz,y),O z=>
   if n=m/\n<=1073741824/\y<=1024/\z.all ak.data=V/\sz=1 then(match iX T st k (ef n (z.map eZ)).flatten with|O u=>O (.ms st.up.length k n sz,[],u)|X=>X)
   else X
  |_,_,_,_,_=>X
 |_=>X
def HE(P:aA)(st:aG)(t:bj)(x v:ak):MK:=
 match x,Pv P t with
 |.ptr d k off,O n=>
  match cu st d k with
  |O u=>
   match v.ji,v.cells.length==n,decide (off+n<=u.length),(d==st.up.length||v.cells.all ak.data)&&v.cells.all ak.cell with
   |W,V,V,V=>O (tv st d k (eR u off v.cells),d,k)
   |_,_,_,_=>X
  |X=>X
 |_,_=>X
def DU(st:aG):ak->Eg
 |.sl es _=>O es
 |.ms d k len sz=>match cu st d k with
  |O u=>(match u.all ak.data,len*sz==u.length with|V,V=>O (qx sz len (u.map eZ))|_,_=>X)
  |X=>X
 |_=>X
def FW(P:aA)(st:aG)(A:xC)(s x:ak):fN:=
 match A,s with
 |[t,u],.sl es (O z)=>
  match pZ P t,wg P t,wP P u with
  |O (sz,y),O _,V=>
   match DU st x with
   |O new=>if(z=sz\/(z=0/\es=[]))/\y<=1024/\es.length+new.length<=1073741824/\km sz new=V then O (.sl (es++new) (O sz))else X
   |X=>X
  |_,_,_=>X
 |_,_=>X
def FA(P:aA)(t:bj):Bool:=match P.underlying t with|O (.int _)=>V|_=>W
def EU(P:aA)(y:xC)(s x:ak):fN:=
 match y,s,x with
 |[t,u],.sl es o,.sc (.int _ (.ofNat 0))=>
  match pZ P t,wg P t,FA P u with
  |O (sz,_),O _,V=>if km sz es=V then O (.sl es o)else X
  |_,_,_=>X
 |_,_,_=>X
def ak.open:ak->mi
 |.un=>V
 |.ptr _ _ _=>V
 |.rp _ _=>V
 |.fn _ (_::_)=>V
 |.bp _=>V
 |.ms _ _ _ _=>W
 |.agg u=>u.any λ c=> !c.data
 |_=>W
def ak.kZ:ak->mi
 |.ms _ _ _ _=>V
 |_=>W
def mA(S:gC):ak->ak
 |.ms d k len sz=>match jW S d k with
  |O u=>(match u.all ak.data,(len*sz==u.length&&sz==1)with|V,V=>.sl (qx sz len (u.map eZ)) X|_,_=>.bp [])
  |X=>.bp []
 |v=>dg v
def po:ak->ak
 |.sc a=>.sc a
 |.sl es o=>.sl es o
 |.agg u=>match u.all ak.data with|V=>.agg (u.map eZ)|W=>.bp []
 |.fn f []=>.fn f []
 |_=>.bp []
def rQ:be->ak
 |[v]=>po v
 |l=>.bp (l.map λ v=>dg (po v))
def AJ:ak->mi
 |.sc _=>V
 |_=>W
inductive vN where
 |clean
 |box (d k:R)
 |all
abbrev lT:=B (R×vN)
inductive rV where
 |pure
 |read (b:gw (R×R))
 |new (b:mi)
 |eO (d:vN)
 |zg
def rY:mi->vN
 |V=>.all
 |W=>.clean
structure VR where
 v:ak
 src:lC
 st:aG
 e:rV
abbrev kX:=gw VR
def xU(P:aA)(gl:bH)(u:eE)(T:VT)(st:aG)(f:eN)(args:uF):kX:=
 match gT gl T f,FM gl T args with
 |O (.fn g cap),O l=>match ly P g with
  |V=>match u g ((l++cap).map (mA (st.cur::st.up))) (st.cur::st.up)with
   |O (v,F::S,d)=>
    (match(l++cap).any ak.kZ&&(!(AJ v)||((l++cap).map (mA (st.cur::st.up))).any ak.open)with
     |W=>O ⟨v,[],{w:=st.w||d,cur:=F,up:=S},.eO (rY d)⟩
     |V=>X)
   |_=>X
  |W=>X
 |_,_=>X
def vR(P:aA)(gl:bH)(y:eE)(T:VT)(st:aG):Op->kX
 |.store t a x=>match gT gl T a,gT gl T x with
  |O p,O v=>(match HE P st t p v with|O (u,d,k)=>O ⟨.bp [],mz x,u,.eO (.box d k)⟩|X=>X)
  |_,_=>X
 |.call {callee:=.value f,args,..}=>xU P gl y T st f args.toList
 |.call {callee:=.builtin .append,args:=⟨[s,x]⟩,argTypes}=>match gT gl T s,gT gl T x with
  |O a,O b=>(match FW P st argTypes.toList a b with
   |O v=>O ⟨v,mz s,st,.eO .clean⟩
   |X=>match EU P argTypes.toList a b with|O v=>O ⟨v,mz s,st,.eO .clean⟩|X=>X)
  |_,_=>X
 |_=>X
structure mh where
 out:EM
 head:EM
 take:bG
 qV:B (R×bG)
abbrev pz:=ck->mh
def Am(f:ck):Bool:=gr f 171
def DX:Op->mi
 |.call {callee:=.value (.func g),..}=>Am g
 |_=>W
def AT(T:VT)(dst:fV):kX->kX
 |O ⟨.sl es (O 1),_,st,.eO .clean⟩=>match dst with
  |O k=>match iX T st k es.flatten with
   |O u=>O ⟨.ms st.up.length k es.length 1,[],u,.zg⟩
   |X=>X
  |X=>X
 |_=>X
def AK(D k n:R)(s:ak):ak->ak
 |.ms d k' len sz=>if d=D/\k'=k/\len=n/\sz=1 then s else .ms d k' len sz
 |v=>v
def zq(D k n:R)(s:ak)(T:VT):VT:=T.map λ p=>(p.1,AK D k n s p.2)
def qV(k:R)(T:VT)(st:aG):qe:=
 match lk st.cur k with
 |O u=>match u.all ak.data with
  |V=>match wz st.up.length k (zq st.up.length k u.length (.sl (u.map λ c=>[eZ c]) X) T)&&xO st.up.length k (np k st.cur)with
   |V=>O (zq st.up.length k u.length (.sl (u.map λ c=>[eZ c]) X) T,{st with cur:=np k st.cur})
   |W=>X
  |W=>X
 |X=>X
def uX:bG->VT->aG->qe
 |[],T,st=>O (T,st)
 |k::l,T,st=>match qV k T st with
  |O (y,u)=>uX l y u
  |X=>X
def Oj:gw bG->VT->aG->qe
 |O l,T,st=>uX l T st
 |X,T,st=>O (T,st)
def By(tk:bG):fV->mi
 |O d=>tk.elem d
 |X=>W
def aiN:Op->mi
 |.buildSlice _ _ _=>W
 |_=>V
def ir(P:aA)(A:mh)(gl:bH)(y:eE)(T:VT)(st:aG)(o:Oper):kX:=
 match dK o.op with
 |0=>match pX P gl (By A.take o.dst) o.type T o.op with|O v=>O ⟨v,pj (By A.take o.dst) o.op,st,.pure⟩|X=>X
 |1=>match o.op with
  |.load t a=>match gT gl T a with
   |O x=>(match Ad P (By A.take o.dst) st t x with|O (v,b,u)=>O ⟨v,[],u,.read b⟩|X=>X)
   |X=>X
  |.slice t x lo D X=>match gT gl T x,Is gl T lo,Is gl T D with
   |O a,O l,O h=>(match Fz P t a l h with|O v=>O ⟨v,[],st,.read X⟩|X=>X)
   |_,_,_=>X
  |_=>X
 |2=>match Di P gl (By A.take o.dst) T st o.dst o.op with|O (v,src,u)=>O ⟨v,src,u,.new (aiN o.op)⟩|X=>X
 |_=>match DX o.op with
  |V=>AT T o.dst (vR P gl y T st o.op)
  |W=>vR P gl y T st o.op
def kI:lC->VT->VT
 |[],T=>T
 |t::l,T=>kI l (match lk T t with|O v=>(t,dg v)::T|X=>T)
def fk(n:R)(T:VT)(d:fV)(v:ak):VT:=
 match d with
 |X=>T
 |O d=>if d<n then(d,v)::T else T
def zI(u:dM)(T:VT)(o:Oper):Bool:=
 match o.guard with
 |X=>V
 |O (j,want)=>
  match u[j]?with
  |O y=>match y.dst with
   |O d=>match mq T d with
    |.sc (.bool b)=>b==want
    |_=>W
   |X=>W
  |X=>W
def zL(u:dM)(T:VT)(o:Oper):Bool:=
 match o.guard with
 |X=>V
 |O (j,_)=>
  match u[j]?with
  |O y=>match y.dst with
   |O d=>match mq T d with
    |.sc (.bool _)=>V
    |.un=>V
    |_=>W
   |X=>W
  |X=>W
def Aa(P:aA)(A:mh)(gl:bH)(y:eE)(n:R)(u:dM):dM->VT->aG->qe
 |[],T,st=>O (T,st)
 |o::l,T,st=>
  match zL u T o,zI u T o with
  |V,V=>match ir P A gl y T st o with
   |O r=>Aa P A gl y n u l (fk n (kI r.src T) o.dst r.v) r.st
   |X=>X
  |V,W=>Aa P A gl y n u l (fk n T o.dst .un) st
  |W,_=>X
structure iq where
 bM:bG
 es:lT
 al:mi
 an:mi
 rs:L8
abbrev sT:=gw (iq×VT×aG)
abbrev yZ:=gw iq
def Cd(u i:R)(Z:iq):rV->yZ
 |.pure=>O Z
 |.read X=>match Z.bM,Z.al with
  |[],_=>O Z
  |_,V=>X
  |_,W=>O {Z with rs:=(i,X,Z.es.length)::Z.rs}
 |.read (O b)=>match Z.an,Z.al with
  |W,_=>O {Z with rs:=(i,O b,Z.es.length)::Z.rs}
  |V,V=>X
  |V,W=>O {Z with rs:=(i,X,Z.es.length)::Z.rs}
 |.new b=>O {Z with bM:=i::Z.bM,al:=V,an:=Z.an||b}
 |.eO d=>match qw u Z.bM with
  |V=>O {Z with bM:=i::Z.bM,es:=(i,d)::Z.es,al:=W}
  |W=>X
 |.zg=>X
def xg(P:aA)(D:mh)(gl:bH)(A:eE)(n:R)(u:dM)(y:oh):dM->R->iq->VT->aG->sT
 |[],_,Z,T,st=>O (Z,T,st)
 |o::l,i,Z,T,st=>
  match zL u T o,zI u T o with
  |V,V=>match ir P D gl A T st o with
   |O r=>match Cd (y i) i Z r.e with
    |O F=>xg P D gl A n u y l (i+1) F (fk n (kI r.src T) o.dst r.v) r.st
    |X=>X
   |X=>X
  |V,W=>xg P D gl A n u y l (i+1) Z (fk n T o.dst .un) st
  |W,_=>X
def AD(b:sj):vN->mi
 |.clean=>V
 |.box d k=> !(k==b.2&&d==b.1)
 |.all=>W
def lA(b:sj)(m k:R):lT->mi
 |[]=>V
 |e::es=>(!(decide (min m k<=es.length)&&decide (es.length<max m k))||AD b e.2)&&lA b m k es
def Dx(b:lY)(m:R)(fs:lT)(k:R):Bool:=
 match b with
 |X=>k==m
 |O b=>lA b m k fs
def Aq(u:oh)(j:R)(ok:kl):lT->bA->mi
 |[],up=>(match up with|O e=>tb (u j) e|X=>W)||ok 0
 |e::es,up=>((match up with|O y=>tb (u j) y|X=>W)||tb (u e.1) j||ok (es.length+1))&&Aq u j ok es (O e.1)
def Vq(u:oh)(es:lT)(rs:L8):Bool:=rs.all λ r=>Aq u r.1 (Dx r.2.1 r.2.2 es) es X
def oc:eE:=λ _ _ _=>X
def HL:mh:=⟨[],[],[],[]⟩
def nG(es:lT):rV->kX->GS
 |.pure,O ⟨v,_,_,.pure⟩=>O (v,W)
 |.read _,O ⟨v,_,_,.read X⟩=>O (v,V)
 |.read _,O ⟨v,_,_,.read (O b)⟩=>match lA b 0 es.length es with|V=>O (v,W)|W=>X
 |_,_=>X
def Bv:GS->ak
 |O (v,_)=>v
 |X=>.bp []
def zp(Z:iq)(z:yZ):GS->yZ
 |O (_,V)=>O Z
 |_=>z
def yf(P:aA)(D:mh)(gl:bH)(A:eE)(n:R)(u:dM)(y:oh)(bF:aG):dM->R->iq->VT->VT->aG->sT
 |[],_,Z,T,_,st=>O (Z,T,st)
 |o::l,i,Z,T,Uqq,st=>
  match zL u T o,zI u T o with
  |V,V=>match ir P D gl A T st o with
   |O r=>match nG Z.es r.e (ir P HL gl oc Uqq bF o)with
    |q=>match zp Z (Cd (y i) i Z r.e) q with
     |O F=>yf P D gl A n u y bF l (i+1) F (fk n (kI r.src T) o.dst r.v) (fk n Uqq o.dst (Bv q)) r.st
     |X=>X
   |X=>X
  |V,W=>yf P D gl A n u y bF l (i+1) Z (fk n T o.dst .un) (fk n Uqq o.dst .un) st
  |W,_=>X
def Re{α:Type}:gw α->gw α->gw α
 |O r,_=>O r
 |X,y=>y
def qG{α:Type}(l:bG)(T:B (R×α)):B (R×α):=l.filterMap λ i=>match lk T i with|O v=>O (i,v)|X=>X
def zr(l:EM)(id:R)(T:VT)(st:aG):VT×aG:=
 match lk l id with
 |O (a,b)=>(qG a T,{st with cur:=qG b st.cur})
 |X=>(T,st)
def xV(y:dV):sT->qe
 |O (Z,A,u)=>match Vq (eA y) Z.es Z.rs with|V=>O (A,u)|W=>X
 |X=>X
def BL(P:aA)(D:mh)(gl:bH)(y:eE)(n:R)(u:dV)(T:VT)(st:aG)(A:mi):qe:=
 match A with
 |W=>Aa P D gl y n u.toList u.toList T st
 |V=>Re (xV u (xg P D gl y n u.toList (eA u) u.toList 0 ⟨[],[],W,W,[]⟩ T st)) (xV u (yf P D gl y n u.toList (eA u) st u.toList 0 ⟨[],[],W,W,[]⟩ T T st))
def L1:Code->R
 |.region id _ _=>id
 |.seq a _=>L1 a
 |.block _ a=>L1 a
 |_=>1000000
abbrev jH:=oP×VT×aG
abbrev qv:=gw jH
abbrev IL:=gw (aK⊕jH)
def ic(P:aA)(A:mh)(gl:bH)(y:eE)(n:R):R->Code->VT->aG->qv
 |0,_,_,_=>X
 |m+1,c,T,st=>
  match c with
  |.skip=>O (.normal,T,st)
  |.region id F d=>match Oj (lk A.qV id) T st with
   |O (J,iz)=>match BL P A gl y n F J iz d with|O (D,u)=>O (.normal,zr A.out id D u)|X=>X
   |X=>X
  |.seq a b=>match ic P A gl y n m a T st with
   |O (.normal,D,u)=>ic P A gl y n m b D u
   |r=>r
  |.cond x a b=>match gT gl T x with
   |O (.sc (.bool V))=>ic P A gl y n m a T st
   |O (.sc (.bool W))=>ic P A gl y n m b T st
   |_=>X
  |.block id a=>match ic P A gl y n m a T st with
   |O (.exit j,D,u)=>if j=id then O (.normal,D,u)else O (.exit j,D,u)
   |r=>r
  |.loop a=>match ic P A gl y n m a (zr A.head (L1 a) T st).1 (zr A.head (L1 a) T st).2 with
   |O (.normal,D,u)=>ic P A gl y n m (.loop a) D u
   |r=>r
  |.exit id=>O (.exit id,T,st)
  |.ret=>O (.ret,T,st)
  |_=>X
def vo:R->be->VT
 |_,[]=>[]
 |i,v::l=>(i,v)::vo (i+1) l
def zd(P:aA)(st:aG)(T:VT):B ResultVar->rI
 |[]=>O []
 |.tmp t::rs=>match zd P st T rs with|O l=>O (mq T t::l)|X=>X
 |.cell a t::rs=>match Ad P W st t (mq T a),zd P st T rs with|O (v,_,_),O l=>O (v::l)|_,_=>X
def yB(P:aA)(pol:pz)(gl:bH)(u:eE)(m:R)(f:ck)(args:be)(S:gC):Cb:=
 match P.funcs[f]?with
 |X=>X
 |O fn=>
  match fn.body with
  |X=>X
  |O c=>
   match ic P (pol f) gl u (args.length+(fn.ntmps-args.length)) m c (vo 0 args) (ez [] S)with
   |O (.exit _,_,_)=>X
   |O (_,T,st)=>match zd P st T fn.results.toList with
    |O l=>O (rQ l,st.up,st.w)
    |X=>X
   |X=>X
def DO(P:aA)(pol:pz)(gl:bH)(u:eE)(m:R)(f:ck)(args:be)(S:gC):Cb:=
 match args.any ak.open with
 |W=>match yB P pol gl u m f args []with
  |O (v,_,_)=>O (v,S,W)
  |X=>X
 |V=>yB P pol gl u m f args S
def GZ(f:ck)(args:be)(S:gC):fN:=
 match gr f 237,args with
 |V,[.agg _,.ptr d k 0]=>match jW S d k with
  |O u=>(match gr u.length 38,u[8]?with|V,O (ak.sl [] _)=>O (ak.sc (.int .i64 0))|_,_=>X)
  |X=>X
 |_,_=>X
def rC(P:aA)(pol:pz)(gl:bH)(bset:uk)(base:fi):R->eE
 |0=>λ _ _ _=>X
 |m+1=>λ f args S=>match bset f with
  |V=>(match args.any ak.open,base f args,GZ f args S with
   |W,O v,_=>O (v,S,W)
   |V,_,O v=>O (v,S,W)
   |_,_,_=>X)
  |W=>DO P pol gl (rC P pol gl bset base m) m f args S
section
variable{a e vs:be}{es:aP}{v:ak}
abbrev Im:=R->oR
abbrev Bx:=R->R->bA
mutual
def RP(I:Im):ak->au->Prop
 |.sc a,b=>b=a/\jP a=V
 |.sl es X,b=>(es=[]/\(b=.aq\/b=.eY))\/∃v off lim r sz,b=.slice v off es.length lim/\I v=O r/\(es=[]\/lim=X/\r.sz=sz)/\off+es.length*sz<=r.cells.length/\cx I sz es ((r.cells.drop off).take (es.length*sz))
 |_,_=>awk
def dq(I:Im):B ak->B au->Prop
 |[],bs=>bs=[]
 |v::vs,bs=>∃c cs,bs=c::cs/\RP I v c/\dq I vs cs
def cx(I:Im)(sz:R):aP->B au->Prop
 |[],bs=>bs=[]
 |e::es,bs=>e.length=sz/\dq I e (bs.take sz)/\cx I sz es (bs.drop sz)
end
mutual
def aJ(ρ:Bx)(I:Im):ak->au->Prop
 |.sc a,b=>b=a/\jP a=V
 |.ptr d k off,b=>∃u,ρ d k=O u/\b=.ptr u off
 |.rp cs off,b=>∃u o r,b=.ptr u (o+off)/\I u=O r/\o+cs.length<=r.cells.length/\dq I cs ((r.cells.drop o).take cs.length)
 |.sl es _,b=>RP I (.sl es X) b
 |.ms d k len _,b=>∃u,ρ d k=O u/\b=.slice u 0 len X
 |.fn f cs,b=>∃bs,b=.func f [] bs/\bu ρ I cs bs
 |.agg cs,b=>cs.all ak.cell=V/\∃bs,b=.agg bs/\bu ρ I cs bs
 |.bp vs,b=>vs=[]\/∃bs,b=.tuple bs/\bu ρ I vs bs
 |.un,b=>b=.tuple []
def bu(ρ:Bx)(I:Im):B ak->B au->Prop
 |[],bs=>bs=[]
 |v::vs,bs=>∃c cs,bs=c::cs/\aJ ρ I v c/\bu ρ I vs cs
end
def bO(I y:Im):Prop:=∀u r,I u=O r->y u=O r
def mQ(ρ y:Bx):Prop:=∀d k u,ρ d k=O u->y d k=O u
theorem bO.refl(I:Im):bO I I:=λ _ _ h=>h
theorem bO.trans{a b c:Im}(h:bO a b)(k:bO b c):bO a c:=λ u r e=>k u r (h u r e)
theorem mQ.refl(ρ:Bx):mQ ρ ρ:=λ _ _ _ h=>h
theorem mQ.trans{a b c:Bx}(h:mQ a b)(k:mQ b c):mQ a c:=λ d k' u e=>k d k' u (h d k' u e)
theorem xp{I:Im}{bs:aF}:dq I [] bs↔bs=[]:=by rw[dq]
def fL{I:Im}{bs:aF}:dq I (v::vs) bs↔∃c cs,bs=c::cs/\RP I v c/\dq I vs cs:=by rw[dq]
theorem C8{I:Im}{bs:aF}:cx I sz [] bs↔bs=[]:=by rw[cx]
theorem qa{I:Im}{bs:aF}:cx I sz (e::es) bs↔e.length=sz/\dq I e (bs.take sz)/\cx I sz es (bs.drop sz):=by rw[cx]
theorem lX{ρ:Bx}{I:Im}{bs:aF}:bu ρ I [] bs↔bs=[]:=by rw[bu]
theorem bJ{ρ:Bx}{I:Im}{bs:aF}:bu ρ I (v::vs) bs↔∃c cs,bs=c::cs/\aJ ρ I v c/\bu ρ I vs cs:=by rw[bu]
mutual
theorem fD{I I':Im}(h:bO I I'):∀(v:ak) (b:au),RP I v b->RP I' v b
 |.sc _,_,e=>e
 |.sl es X,b,e=>by
  simp only[RP]at e⊢;rcases e with e|⟨v,off,lim,r,sz,h1,h2,h3,h4,h5⟩
  .exact .inl e
  exact .inr ⟨v,off,lim,r,sz,h1,h _ _ h2,h3,h4,Ap h sz es _ h5⟩
 |.sl es (O _),_,e=>by simp only[RP]at e
 |.ptr _ _ _,_,e=>by simp only[RP]at e
 |.rp _ _,_,e=>by simp only[RP]at e
 |.ms _ _ _ _,_,e=>by simp only[RP]at e
 |.fn _ _,_,e=>by simp only[RP]at e
 |.agg _,_,e=>by simp only[RP]at e
 |.bp _,_,e=>by simp only[RP]at e
theorem B0{I I':Im}(h:bO I I'):∀(vs:B ak) (bs:B au),dq I vs bs->dq I' vs bs
 |[],_,e=>e
 |v::vs,_,e=>by obtain⟨c,cs,rfl,h1,h2⟩:=fL.1 e;exact fL.2 ⟨c,cs,Q,fD h v c h1,B0 h vs cs h2⟩
theorem Ap{I I':Im}(h:bO I I')(sz:R):∀(es:aP) (bs:B au),cx I sz es bs->cx I' sz es bs
 |[],_,e=>e
 |e::es,bs,k=>by obtain⟨h1,h2,h3⟩:=qa.1 k;exact qa.2 ⟨h1,B0 h e _ h2,Ap h sz es _ h3⟩
end
mutual
theorem wW{ρ ρ':Bx}{I I':Im}(k:mQ ρ ρ')(h:bO I I'):∀(v:ak) (b:au),aJ ρ I v b->aJ ρ' I' v b
 |.sc _,_,e=>e
 |.un,_,e=>by simp only[aJ]at e⊢;exact e
 |.sl es _,b,e=>fD h (.sl es X) b e
 |.ptr _ _ _,_,e=>by simp only[aJ]at e⊢;obtain⟨u,h1,h2⟩:=e;exact⟨u,k _ _ _ h1,h2⟩
 |.rp cs _,_,e=>by simp only[aJ]at e⊢;obtain⟨u,o,r,h1,h2,h3,h4⟩:=e;exact⟨u,o,r,h1,h _ _ h2,h3,B0 h cs _ h4⟩
 |.ms _ _ _ _,_,e=>by simp only[aJ]at e⊢;obtain⟨u,h1,h2⟩:=e;exact⟨u,k _ _ _ h1,h2⟩
 |.fn _ cs,_,e=>by simp only[aJ]at e⊢;obtain⟨bs,h1,h2⟩:=e;exact⟨bs,h1,An k h cs bs h2⟩
 |.agg cs,_,e=>by simp only[aJ]at e⊢;obtain⟨h0,bs,h1,h2⟩:=e;exact⟨h0,bs,h1,An k h cs bs h2⟩
 |.bp cs,_,e=>by
  simp only[aJ]at e⊢;rcases e with e|⟨bs,h1,h2⟩
  .exact .inl e
  exact .inr ⟨bs,h1,An k h cs bs h2⟩
theorem An{ρ ρ':Bx}{I I':Im}(k:mQ ρ ρ')(h:bO I I'):∀(vs:B ak) (bs:B au),bu ρ I vs bs->bu ρ' I' vs bs
 |[],_,e=>e
 |v::vs,_,e=>by obtain⟨c,cs,rfl,h1,h2⟩:=bJ.1 e;exact bJ.2 ⟨c,cs,Q,wW k h v c h1,An k h vs cs h2⟩
end
def UA(d k:R)(ρ y:Bx):Prop:=∀d' k' u,(d'≠d\/k'≠k)->ρ d' k'=O u->y d' k'=O u
theorem aic(h:(!(k'==k&&d'==d))=V):d'≠d\/k'≠k:=by grind
mutual
theorem VZ{ρ ρ':Bx}{I:Im}{d k:R}(h:UA d k ρ ρ'):∀(v:ak) (b:au),qy d k v=V->aJ ρ I v b->aJ ρ' I v b
 |.sc _,_,_,e=>e
 |.un,_,_,e=>by simp only[aJ]at e⊢;exact e
 |.sl es _,b,_,e=>e
 |.ptr _ _ _,_,n,e=>by simp only[aJ]at e⊢;obtain⟨u,h1,h2⟩:=e;simp only[qy]at n;exact⟨u,h _ _ _ (aic n) h1,h2⟩
 |.rp cs _,_,_,e=>e
 |.ms _ _ _ _,_,n,e=>by simp only[aJ]at e⊢;obtain⟨u,h1,h2⟩:=e;simp only[qy]at n;exact⟨u,h _ _ _ (aic n) h1,h2⟩
 |.fn _ cs,_,n,e=>by simp only[aJ]at e⊢;simp only[qy]at n;obtain⟨bs,h1,h2⟩:=e;exact⟨bs,h1,GU h cs bs n h2⟩
 |.agg cs,_,n,e=>by simp only[aJ]at e⊢;simp only[qy]at n;obtain⟨h0,bs,h1,h2⟩:=e;exact⟨h0,bs,h1,GU h cs bs n h2⟩
 |.bp cs,_,n,e=>by
  simp only[aJ]at e⊢;simp only[qy]at n;rcases e with e|⟨bs,h1,h2⟩
  .exact .inl e
  exact .inr ⟨bs,h1,GU h cs bs n h2⟩
theorem GU{ρ ρ':Bx}{I:Im}{d k:R}(h:UA d k ρ ρ'):∀(vs:B ak) (bs:B au),qd d k vs=V->bu ρ I vs bs->bu ρ' I vs bs
 |[],_,_,e=>e
 |v::vs,_,n,e=>by obtain⟨c,cs,rfl,h1,h2⟩:=bJ.1 e;simp only[qd,bq]at n;exact bJ.2 ⟨c,cs,Q,VZ h v c n.1 h1,GU h vs cs n.2 h2⟩
end
theorem wm{I:Im}:∀{vs:be} {bs:aF},dq I vs bs->bs.length=vs.length
 |[],_,h=>by rw[xp.1 h];rfl
 |v::vs,_,h=>by obtain⟨c,u,rfl,_,h2⟩:=fL.1 h;simp[wm h2]
theorem abK{I:Im}:∀{vs:be} {bs:aF} {i:R} {v:ak},dq I vs bs->vs[i]? =O v->∃b,bs[i]? =O b/\RP I v b
 |[],_,_,_,_,e=>by simp at e
 |v::vs,_,i,w,h,e=>by
  obtain⟨c,u,rfl,h1,h2⟩:=fL.1 h;cases i;.simp_all
  rename_i i;simpa using abK h2 e
theorem abS{I:Im}:∀{vs:be} {bs:aF},bs.length=vs.length->(∀(i:R) (v:ak) (b:au),vs[i]? =O v->bs[i]? =O b->RP I v b)->dq I vs bs
 |[],bs,u,_=>xp.2 (mF u)
 |v::vs,bs,u,h=>by
  cases bs;.simp at u
  rename_i b bs;exact fL.2 ⟨b,bs,Q,h 0 v b aw aw,abS (by simpa using u) λ i v b e y=>h (i+1) v b (by simpa using e) (by simpa using y)⟩
def apr{I:Im}:∀{a c:be} {x y:aF},dq I a x->dq I c y->dq I (a++c) (x++y)
 |[],_,_,_,h,k=>(xp.1 h)▸k
 |v::a,c,_,y,h,k=>by obtain⟨b,bs,rfl,h1,h2⟩:=fL.1 h;exact fL.2 ⟨b,bs++y,Q,h1,apr h2 k⟩
theorem aiD{I:Im}(n:R){x:aF}(h:dq I a x):dq I (a.take n) (x.take n):=by grind[abS,wm,abK]
theorem agS{I:Im}(n:R){x:aF}(h:dq I a x):dq I (a.drop n) (x.drop n):=by grind[abS,wm,abK]
theorem yP{I:Im}:∀{es:aP} {bs:aF},cx I sz es bs->bs.length=es.length*sz
 |[],_,h=>by rw[C8.1 h];simp
 |e::es,bs,h=>by obtain⟨h1,h2,u⟩:=qa.1 h;have a:=wm h2;have b:=yP u;grind[akW]
def M1{I:Im}:∀{es fs:aP} {x y:aF},cx I sz es x->cx I sz fs y->cx I sz (es++fs) (x++y)
 |[],_,_,_,h,k=>(C8.1 h)▸k
 |e::es,fs,x,y,h,k=>by
  obtain⟨h1,h2,A⟩:=qa.1 h;have u:=wm h2;rw[KL]at u;refine qa.2 ⟨h1,bP,?_⟩;rw[aKf aa];exact M1 A k
theorem VK{I:Im}:∀(n:R) {es:aP} {x:aF},cx I sz es x->cx I sz (es.drop n) (x.drop (n*sz))
 |0,_,_,h=>by simpa using h
 |n+1,[],_,h=>by rw[C8.1 h];simp[cx]
 |n+1,e::es,x,h=>by obtain⟨h1,h2,u⟩:=qa.1 h;have:=VK n u;grind[acs]
def aij{I:Im}:∀(n:R) {es:aP} {x:aF},cx I sz es x->cx I sz (es.take n) (x.take (n*sz))
 |0,_,_,h=>by simp[cx]
 |n+1,[],_,h=>by rw[C8.1 h];simp[cx]
 |n+1,e::es,x,h=>by
  obtain⟨h1,h2,u⟩:=qa.1 h;refine qa.2 ⟨h1,bP,?_⟩;rw[Ev,Hf,Nat.add_sub_cancel];exact aij n u
theorem afH{I:Im}{x:aF}(h:cx I sz es x)(y:es[i]? =O e):e.length=sz/\i*sz+sz<=x.length/\dq I e ((x.drop (i*sz)).take sz):=by
 have u:=VK i h;have:es.drop i=e::es.drop (i+1):=by grind[List.drop_eq_getElem_cons]
 rw[this]at u;obtain⟨h1⟩:=qa.1 u;rw[yP h];have:(i+1)*sz<=es.length*sz:=uI _ ((pC.1 y).1);grind
theorem VG{I:Im}{sz':R}{x:aF}(h:cx I sz es x)(k:km sz' es=V):es=[]\/sz=sz':=by
 cases es;.exact .inl Q
 rename_i e es;grind[qa,km]
theorem sQ{ρ:Bx}{I:Im}:∀{vs:be} {bs:aF},bu ρ I vs bs->bs.length=vs.length
 |[],_,h=>by rw[lX.1 h];rfl
 |v::vs,_,h=>by obtain⟨c,u,rfl,_,h2⟩:=bJ.1 h;simp[sQ h2]
theorem J9{ρ:Bx}{I:Im}:∀{vs:be} {bs:aF} {i:R} {v:ak},bu ρ I vs bs->vs[i]? =O v->∃b,bs[i]? =O b/\aJ ρ I v b
 |[],_,_,_,_,e=>by simp at e
 |v::vs,_,i,w,h,e=>by
  obtain⟨c,u,rfl,h1,h2⟩:=bJ.1 h;cases i;.simp_all
  rename_i i;simpa using J9 h2 e
theorem Xp{ρ:Bx}{I:Im}:∀{vs:be} {bs:aF},bs.length=vs.length->(∀(i:R) (v:ak) (b:au),vs[i]? =O v->bs[i]? =O b->aJ ρ I v b)->bu ρ I vs bs
 |[],bs,u,_=>lX.2 (mF u)
 |v::vs,bs,u,h=>by
  cases bs;.simp at u
  rename_i b bs;exact bJ.2 ⟨b,bs,Q,h 0 v b aw aw,Xp (by simpa using u) λ i v b e y=>h (i+1) v b (by simpa using e) (by simpa using y)⟩
theorem Ws{ρ:Bx}{I:Im}:∀{a c:be} {x y:aF},bu ρ I a x->bu ρ I c y->bu ρ I (a++c) (x++y)
 |[],_,_,_,h,k=>(lX.1 h)▸k
 |v::a,c,_,y,h,k=>by obtain⟨b,bs,rfl,h1,h2⟩:=bJ.1 h;exact bJ.2 ⟨b,bs++y,Q,h1,Ws h2 k⟩
theorem Nx{ρ:Bx}{I:Im}(n:R){x:aF}(h:bu ρ I a x):bu ρ I (a.take n) (x.take n):=by grind[Xp,sQ,J9]
theorem M7{ρ:Bx}{I:Im}(n:R){x:aF}(h:bu ρ I a x):bu ρ I (a.drop n) (x.drop n):=by grind[Xp,sQ,J9]
theorem VS{ρ:Bx}{I:Im}{new:be}{x y:aF}(h:bu ρ I a x)(k:bu ρ I new y)(off:R):bu ρ I (eR a off new) (eV x off y):=by grind[eR,eV,sQ,Ws,Nx,M7]
def ZV{ρ:Bx}{I:Im}:∀{v:ak} {b:au},RP I v b->aJ ρ I v b
 |.sc _,_,h=>h
 |.sl es X,_,h=>h
 |.sl es (O _),_,h=>by simp[RP]at h
 |.ptr _ _ _,_,h=>by simp[RP]at h
 |.rp _ _,_,h=>by simp[RP]at h
 |.ms _ _ _ _,_,h=>by simp[RP]at h
 |.fn _ _,_,h=>by simp[RP]at h
 |.agg _,_,h=>by simp[RP]at h
 |.bp _,_,h=>by simp[RP]at h
def Gq{ρ:Bx}{I:Im}:∀{vs:be} {bs:aF},dq I vs bs->bu ρ I vs bs
 |[],_,h=>h
 |v::vs,_,h=>by obtain⟨c,u,rfl,h1,h2⟩:=fL.1 h;exact bJ.2 ⟨c,u,Q,ZV h1,Gq h2⟩
def agK{I:Im}(h:RP I v b):v.data=true/\eZ v=v/\v.cell=true:=by
 cases v with
 |sc a=>exact⟨Q,Q,Q⟩
 |sl es o=>cases o with
  |none=>exact⟨Q,Q,Q⟩
  |some _=>simp[RP]at h
 |_=>simp[RP]at h
def Io{I:Im}:∀{vs:be} {bs:aF},dq I vs bs->vs.all ak.data=V/\vs.map eZ=vs/\vs.all ak.cell=V
 |[],_,_=>⟨Q,Q,Q⟩
 |v::vs,_,h=>by obtain⟨c,u,rfl,h1,h2⟩:=fL.1 h;obtain⟨a⟩:=agK h1;obtain⟨y⟩:=Io h2;simp_all
def aI5{ρ:Bx}{I:Im}(h:aJ ρ I v b)(u:v.data=V):RP I (eZ v) b:=by
 cases v with
 |sc a=>exact h
 |sl es o=>exact h
 |_=>simp[ak.data]at u
def FQ{ρ:Bx}{I:Im}:∀{vs:be} {bs:aF},bu ρ I vs bs->vs.all ak.data=V->dq I (vs.map eZ) bs
 |[],_,h,_=>h
 |v::vs,_,h,u=>by obtain⟨c,y,rfl,h1,h2⟩:=bJ.1 h;rw[ny,bq]at u;exact fL.2 ⟨c,y,Q,aI5 h1 u.1,FQ h2 u.2⟩
def aGF{ρ:Bx}{I:Im}(h:aJ ρ I v b):aJ ρ I (eZ v) b:=by
 cases v with
 |sl es o=>exact h
 |_=>exact h
theorem MC{ρ:Bx}{I:Im}:∀{vs:be} {bs:aF},bu ρ I vs bs->bu ρ I (vs.map eZ) bs
 |[],_,h=>h
 |v::vs,_,h=>by obtain⟨c,u,rfl,h1,h2⟩:=bJ.1 h;exact bJ.2 ⟨c,u,Q,aGF h1,MC h2⟩
theorem aIo(v:ak):(eZ v).cell=v.cell:=by cases v<;>rfl
theorem Pm(vs:be):(vs.map eZ).all ak.cell=vs.all ak.cell:=by
 induction vs with
 |nil=>rfl
 |cons v vs u=>grind[aIo]
theorem su{ρ:Bx}{I:Im}(h:aJ ρ I v b):aJ ρ I (dg v) b:=by
 cases v with
 |sl es o=>exact h
 |agg u=>
  simp only[aJ,dg]at h⊢;grind[Pm,MC]
 |_=>exact h
def Kx{ρ:Bx}{I:Im}(h:aJ ρ I v b)(A:v.ji=W):bu ρ I v.cells b.cells:=by
 cases v with
 |agg D=>
  obtain⟨_,bs,rfl,h2⟩:=h;exact h2
 |bp vs=>simp[ak.ji]at A
 |un=>simp[ak.ji]at A
 |sc a=>
  have y:=h;obtain⟨rfl,h2⟩:=y;rw[(show b.cells=[b] by cases b<;>first|rfl|simp[jP]at h2)];exact bJ.2 ⟨b,[],Q,h,lX.2 Q⟩
 |ptr d k off=>
  have y:=h;obtain⟨u,_,rfl⟩:=y;exact bJ.2 ⟨_,[],Q,h,lX.2 Q⟩
 |rp D off=>
  have y:=h;obtain⟨u,o,r,rfl,_⟩:=y;exact bJ.2 ⟨_,[],Q,h,lX.2 Q⟩
 |sl es o=>
  have y:=h;rcases y with⟨_,rfl|rfl⟩|⟨_,_,_,_,_,rfl,_⟩
  .exact bJ.2 ⟨_,[],Q,h,lX.2 Q⟩
  .exact bJ.2 ⟨_,[],Q,h,lX.2 Q⟩
  exact bJ.2 ⟨_,[],Q,h,lX.2 Q⟩
 |ms d k n sz=>
  have y:=h;obtain⟨u,_,rfl⟩:=y;exact bJ.2 ⟨_,[],Q,h,lX.2 Q⟩
 |fn f D=>
  have y:=h;obtain⟨bs,rfl,_⟩:=y;exact bJ.2 ⟨_,[],Q,h,lX.2 Q⟩
def C1{ρ:Bx}{I:Im}(h:aJ ρ I v b)(y:v.cell=true):b.dm=true:=by
 cases v with
 |agg A=>simp[ak.cell]at y
 |bp vs=>simp[ak.cell]at y
 |un=>simp[ak.cell]at y
 |sc a=>
  obtain⟨rfl,h2⟩:=h;cases b<;>first|rfl|simp[jP]at h2
 |ptr d k off=>obtain⟨u,_,rfl⟩:=h;rfl
 |rp A off=>obtain⟨u,o,r,rfl,_⟩:=h;rfl
 |sl es o=>rcases h with⟨_,rfl|rfl⟩|⟨_,_,_,_,_,rfl,_⟩<;>rfl
 |ms d k n sz=>obtain⟨u,_,rfl⟩:=h;rfl
 |fn f A=>obtain⟨bs,rfl,_⟩:=h;rfl
def S8{ρ:Bx}{I:Im}:∀{vs:be} {bs:aF},bu ρ I vs bs->vs.all ak.cell=V->bs.all au.dm=V
 |[],_,h,_=>by rw[lX.1 h];rfl
 |v::vs,_,h,u=>by obtain⟨c,y,rfl,h1,h2⟩:=bJ.1 h;rw[ny,bq]at u⊢;exact⟨C1 h1 u.1,S8 h2 u.2⟩
def ara{ρ:Bx}{I:Im}(h:aJ ρ I v b)(u:v.ji=W):v.cells.all ak.cell=true:=by
 cases v with
 |agg y=>exact h.1
 |bp vs=>simp[ak.ji]at u
 |un=>simp[ak.ji]at u
 |_=>rfl
theorem CB(i:R)(v:α)(l:B (R×α))(j:R):lk ((i,v)::l) j=if i=j then O v else lk l j:=rfl
theorem RE(k:R):∀(l:B (R×α)) (j:R),lk (np k l) j=if j=k then X else lk l j
 |[],j=>by simp[np,lk]
 |(i,w)::l,j=>by have u:=RE k l j;grind[np,CB]
theorem ac6(k:R)(u:be):∀(F:xH) (j:R),lk (uu F k u) j=if j=k then(lk F j).map (λ _=>u)else lk F j
 |[],j=>by simp[uu,lk]
 |(i,w)::F,j=>by have y:=ac6 k u F j;grind[uu,CB]
theorem Q0:∀(l:bG) (T:B (R×α)) (j:R) (v:α),lk (qG l T) j=O v->lk T j=O v
 |[],T,j,v,h=>by cases h
 |i::l,T,j,v,h=>by
  unfold qG at h;rw[List.filterMap_cons]at h;split at h;.exact Q0 l T j v h
  rename_i p u;split at u<;>cases u;rw[CB]at h;split at h;.simp_all
  exact Q0 l T j v h
def adD:∀{T:VT} {i:R} {v:ak},wz d k T=V->lk T i=O v->qy d k v=V
 |(j,w)::T,i,v,h,e=>by
  rw[wz,bq]at h;rw[CB]at e;split at e;.cases e;exact h.1
  exact adD h.2 e
 |[],_,_,_,e=>bk
def adH:∀{F:xH} {i:R} {v:be},xO d k F=V->lk F i=O v->qd d k v=V
 |(j,w)::T,i,v,h,e=>by
  rw[xO,bq]at h;rw[CB]at e;split at e;.cases e;exact h.1
  exact adH h.2 e
 |[],_,_,_,e=>bk
end
section
variable{es:aP}{ix v y:ak}{vs:be}
inductive nq where
 |tmp (d i j:R)
 |box (d k j:R)
 |up (s:nq)
abbrev AS:=nq->gw nq
abbrev uy:=gw nq
structure Gh where
 ρ:Bx
 I:Im
 own:R->uy
 tp:R->R
def dL(D:R)(ρ:Bx):Bx:=λ d k=>if d<D then ρ d k else X
theorem UY{D y:R}(h:D<=y)(ρ:Bx):mQ (dL D ρ) (dL y ρ):=λ d k u e=>by grind[dL]
theorem KH(D:R)(ρ:Bx):mQ (dL D ρ) ρ:=λ d k u e=>by grind[dL]
def lJ(G:Gh)(s:nq)(es:aP)(sz:R)(a:au):Prop:=(es=[]/\a=.aq)\/∃v off r,a=.slice v off es.length X/\G.I v=O r/\r.sz=sz/\0<sz/\r.ro=W/\off+es.length*sz=r.cells.length/\G.own r.aI=O s/\G.tp r.aI=r.start+r.cells.length
def Sf(G:Gh)(H:aj):Prop:=∀f s,G.own f=O s->f<H.ae/\∃mem,H.aV.get f=O mem/\∀u∈mem,u<H.ae/\∀ru,H.ah.get u=O ru->ru.start+ru.cells.length<=G.tp f
def tH(G:Gh)(s:R->nq)(vs:be)(aah:aF):Prop:=∀j es sz a,vs[j]? =O (.sl es (O sz))->aah[j]? =O a->lJ G (s j) es sz a
structure Av (G:Gh) (H:aj) (d k:R) (cs:be) (u:R) (r:Row):Prop where
 ref:G.ρ d k=some u
 row:H.ah.get u=some r
 rw:r.ro=false
 sz:r.sz=1
 aI:r.aI=u
 mem:H.aV.get u=some [u]
 im:G.I u=none
 un:G.own u=none
 cells:bu (dL (d+1) G.ρ) G.I cs r.cells
 cell:cs.all ak.cell=true
 own:tH G (.box d k) cs r.cells
structure cH (G:Gh) (st:aG) (H:aj):Prop where
 gd:Good H
 gI:∀u r,G.I u=some r->H.ah.get u=some r
 box:∀d k cs,cu st d k=some cs->∃u r,Av G H d k cs u r
 inj:∀d k d' k' cs cs' u,cu st d k=some cs->cu st d' k'=some cs'->G.ρ d k=some u->G.ρ d' k'=some u->d=d'/\k=k'
 aI:Sf G H
 oT:∀d k u,G.ρ d k=some u->u<H.ae
def cH.wf{G:Gh}{st:aG}{H:aj}(h:cH G st H):WF H:=h.gd.wf
def tJ(G:Gh)(D:R)(T:VT)(T':aM):Prop:=∀i v,lk T i=O v->aJ (dL (D+1) G.ρ) G.I v (ai T' i)/\tH G (.tmp D i) v.cells (ai T' i).cells
def mJ(ng:R)(gl:bH)(G:Gh):Prop:=∀g u,gl g=O u->g<ng/\∃r,G.I g=O r/\u.length<=r.cells.length/\dq G.I u (r.cells.take u.length)
def tw(vs:be)(aah:aF):Prop:=∀(j:R) (es:aP) (sz:R) (a:au),vs[j]? =O (.sl es (O sz))->aah[j]? =O a->es=[]/\a=.aq
def tw.own(h:tw vs aah)(G:Gh)(s:R->nq):tH G s vs aah:=λ j es sz a h1 h2=>.inl (h j es sz a h1 h2)
theorem aby:eZ v≠.sl es (O sz):=by cases v<;>simp[eZ]
theorem XG:tw (vs.map eZ) aah:=by intro j es sz a h _;grind[aby]
theorem ur:tw (dg v).cells aah:=by
 cases v with
 |agg y=>exact XG
 |sl es o=>
  intro j u sz a h _;grind[dg,ak.cells]
 |_=>
  intro j u sz a h _;cases j;.simp[dg,ak.cells]at h
  rename_i j;simp[dg,ak.cells]at h
theorem kM(h:∀es sz,v≠.sl es (O sz))(u:v.cells=[v]):tw v.cells aah:=by intro j es sz a e _;grind
def vr(G:Gh)(D:R)(x:eN)(vs:be)(aah:aF):Prop:=∀j es sz a,vs[j]? =O (.sl es (O sz))->aah[j]? =O a->(es=[]/\a=.aq)\/∃t,x=.tmp t/\lJ G (.tmp D t j) es sz a
def tw.x(h:tw vs aah)(G:Gh)(D:R)(x:eN):vr G D x vs aah:=λ j es sz a h1 h2=>.inl (h j es sz a h1 h2)
variable{P:aA}{ng:R}{gl:bH}{G:Gh}{D:R}{T:VT}{T':aM}
theorem PG(u:tJ G D T T')(t:Tmp):aJ (dL (D+1) G.ρ) G.I (mq T t) (ai T' t)/\tH G (.tmp D t) (mq T t).cells (ai T' t).cells:=by
 unfold mq;split;.rename_i v h;exact u t v h
 refine⟨by simp[aJ],(kM aw Q).own G _⟩
theorem akT{ρ:Bx}{I:Im}(h:NG a=O v):aJ ρ I v a/\(∀es sz,v=.sl es (O sz)->es=[]/\a=.aq)/\v.cell=V/\v.cells=[v]/\(v=.sl [] (O 0)\/(∃f,v=.fn f [])\/∃b,v=.sc b):=by
 unfold NG at h;split at h
 .cases h;refine⟨?_,?_,Q,Q,.inl Q⟩;.rw[aJ,RP];simp
  simp
 .cases h;refine⟨?_,aw,Q,Q,.inr (.inl ⟨_,Q⟩)⟩;rw[aJ];grind[lX]
 split at h<;>cases h;rename_i u;refine⟨?_,aw,Q,Q,.inr (.inr ⟨_,Q⟩)⟩;simp only[aJ];exact⟨sp,u⟩
def aeO{ρ:Bx}{I:Im}:∀{aah:aF} {vs:be},TD aah=O vs->bu ρ I vs aah/\tw vs aah/\vs.all ak.cell=V
 |[],vs,h=>by cases h;exact⟨lX.2 Q,(λ j es sz a e _=>by simp at e),Q⟩
 |a::aah,vs,h=>by
  unfold TD at h;split at h<;>cases h;rename_i v l D F;obtain⟨h1,h2,J⟩:=akT D;obtain⟨A,y,u⟩:=aeO F;refine⟨bJ.2 ⟨a,aah,Q,h1,A⟩,λ j es sz b e K=>?_,by simp[J,u]⟩;cases j;.simp_all
  rename_i j;exact y j es sz b e K
theorem ZT{ρ:Bx}{I:Im}{a:au}{v:ak}(h:lZ a=O v):aJ ρ I v a/\tw v.cells a.cells/\v.ji=false/\v.cells.all ak.cell=true:=by
 unfold lZ at h;split at h;.split at h<;>cases h;rename_i l A;obtain⟨h1,h2,y⟩:=aeO (ρ:=ρ) (I:=I) A;exact⟨by rw[aJ];simp_all,h2,Q,y⟩
 obtain⟨h1,h2,y,F,h5⟩:=akT h;have u:v.ji=false:=by rcases h5 with rfl|⟨f,rfl⟩|⟨b,rfl⟩<;>rfl
 have D:=Kx h1 u;refine⟨h1,?_,u,bP⟩;intro j es sz b e J;grind[au.cells]
theorem jk(F:tJ G D T T')(u:mJ ng gl G){x:eN}(h:gT gl T x=O v):
 ∃a,cy ng T' x=O a/\aJ (dL (D+1) G.ρ) G.I v a/\vr G D x v.cells a.cells:=by
 cases x with
 |tmp t=>
  rw[gT,AW]at h;subst h;obtain⟨h1,h2⟩:=PG F t;exact⟨_,Q,h1,λ j es sz a e J=>.inr ⟨t,Q,h2 j es sz a e J⟩⟩
 |const w=>
  rw[gT]at h;split at h;.rename_i a A;obtain⟨h1,h2,_⟩:=ZT h;exact⟨a,A,h1,h2.x G D _⟩
  cases h
 |global g=>
  rw[gT]at h;split at h<;>cases h;rename_i K y;obtain⟨h1⟩:=u g K y;refine⟨.ptr g 0,?_,?_,(kM aw Q).x G D _⟩;.show Bool.rec (motive:=λ _=>cR) X _ _=_;rw[cD h1]
  rw[aJ];grind
 |func f=>
  rw[gT,AW]at h;subst h;exact⟨.func f [] [],Q,by rw[aJ];grind[lX],(kM aw Q).x G D _⟩
theorem Uj(y:tJ G D T T')(u:mJ ng gl G):∀{l:uF} {vs:be},FM gl T l=O vs->∃aah,ni ng T' l=O aah/\bu (dL (D+1) G.ρ) G.I vs aah
 |[],vs,h=>by cases h;exact⟨[],Q,lX.2 Q⟩
 |x::l,vs,h=>by
  unfold FM at h;split at h;.rename_i a r F A;obtain⟨b⟩:=jk y u F;obtain⟨bs⟩:=Uj y u A;grind[bJ,Az,ni]
  cases h
def Ax(G:Gh)(D:R):rK->q9->wi->Prop
 |[],[],[]=>True
 |(i,x)::y,(A,v)::vs,(u,a)::aah=>A=i/\u=i/\aJ (dL (D+1) G.ρ) G.I v a/\vr G D x v.cells a.cells/\Ax G D y vs aah
 |_,_,_=>awk
def Vv(y:tJ G D T T')(u:mJ ng gl G):∀{l:rK} {vs:q9},Gk gl T l=O vs->∃aah,qA ng T' l=O aah/\Ax G D l vs aah
 |[],vs,h=>by cases h;exact⟨[],Q,sp⟩
 |(i,x)::l,vs,h=>by unfold Gk at h;split at h<;>cases h;rename_i a r F A;obtain⟨b,h1,h2,K⟩:=jk y u F;obtain⟨bs,J,h5⟩:=Vv y u A;refine⟨(i,b)::bs,?_,Q,Q,h2,K,h5⟩;unfold qA;rw[h1,J]
theorem amM{ρ:Bx}{I:Im}:∀{vs:be} {aah bs:aF},rX vs=O aah->bu ρ I vs bs->bs=aah
 |[],aah,bs,h,k=>by cases h;exact lX.1 k
 |.sc a::vs,aah,bs,h,k=>by rw[rX]at h;split at h<;>cases h;rename_i l u;obtain⟨c,y,rfl,h1,h2⟩:=bJ.1 k;rw[h1.1,amM u h2]
 |.ptr _ _ _::_,_,_,h,_=>by simp[rX]at h
 |.rp _ _::_,_,_,h,_=>by simp[rX]at h
 |.sl _ _::_,_,_,h,_=>by simp[rX]at h
 |.ms _ _ _ _::_,_,_,h,_=>by simp[rX]at h
 |.fn _ _::_,_,_,h,_=>by simp[rX]at h
 |.agg _::_,_,_,h,_=>by simp[rX]at h
 |.bp _::_,_,_,h,_=>by simp[rX]at h
theorem S6{ρ:Bx}{I:Im}(h:tg v=O a)(k:aJ ρ I v b):b=a:=by
 cases v with
 |sc c=>rw[tg]at h;rw[aJ]at k;grind
 |agg u=>
  rw[tg]at h;split at h;.rw[aJ]at k;grind[amM]
  cases h
 |_=>simp[tg]at h
def U1{ρ:Bx}{I:Im}(h:G4 v=O n)(k:aJ ρ I v b):∃kd,b=.int kd (.ofNat n):=by unfold G4 at h;split at h<;>cases h;exact⟨_,k.1⟩
def oX(ρ:Bx)(I:Im)(v:ak)(a:au):Prop:=aJ ρ I v a/\tw v.cells a.cells
theorem KY{ρ:Bx}{I:Im}(h:lZ a=O v):oX ρ I v a:=⟨(ZT h).1,(ZT (ρ:=ρ) (I:=I) h).2.1⟩
variable{ρ:Bx}{I:Im}
theorem aug{u:BinOp}{x:ak}(h:fU P u t x y=O v)(hx:aJ ρ I x a)(A:aJ ρ I y b):∃r,cY P u t a b=O r/\oX ρ I v r:=by grind[fU,S6,KY]
theorem aDx{u:UnOp}{x:ak}(h:Fp u x=O v)(hx:aJ ρ I x a):∃r,JX u a=O r/\oX ρ I v r:=by grind[Fp,S6,KY]
theorem aro{d:bj}{x:ak}(h:RX P s d x=O v)(hx:aJ ρ I x a):∃r,sH P s d (O a)=O r/\oX ρ I v r:=by grind[RX,S6,KY]
theorem aEO{x:ak}(h:HN P t x ix=O v)(hx:aJ ρ I x a)(A:aJ ρ I ix b):∃r,uw P t a b=O r/\oX ρ I v r:=by
 unfold HN at h;split at h;.grind[S6,KY]
 split at h<;>try cases h
 rename_i Y i n e M F J;split at h<;>try cases h
 rename_i d j N K;split at h<;>cases h;rename_i S y;obtain⟨kd,rfl⟩:=U1 M A;obtain⟨u,bs,rfl,h2⟩:=hx;refine⟨.agg ((bs.drop (i*j.size)).take j.size),?_,?_,XG⟩;.unfold uw;simp[F,N,K,S,y]
 refine⟨?_,_,Q,MC (Nx _ (M7 _ h2))⟩;rw[Pm,iw];rw[iw]at u;exact λ v D=>u v (apG (UJ D))
def aIl{c x:ak}{A:au}(h:EF c x y=O v)(u:aJ ρ I c A)(hx:aJ ρ I x a)(D:aJ ρ I y b):∃r,BE (O A) (O a) (O b)=O r/\oX ρ I v r:=by
 unfold EF at h;split at h;.cases h;exact u.1▸⟨a,Q,su hx,ur⟩
 .cases h;exact u.1▸⟨b,Q,su D,ur⟩
 cases h
def azB{x:ak}(h:En x=O v)(hx:aJ ρ I x a):∃r,Bt (O a)=O r/\oX ρ I v r:=by
 unfold En at h;split at h;.cases h;have:=hx;obtain⟨u,_,rfl⟩:=this;exact⟨_,Q,hx,kM aw Q⟩
 .cases h;have:=hx;obtain⟨u,o,r,rfl,_⟩:=this;exact⟨_,Q,hx,kM aw Q⟩
 .cases h;have:=hx;obtain⟨bs,rfl,_⟩:=this;exact⟨_,Q,hx,kM aw Q⟩
 cases h
theorem aht(h:(n==0)=false):gr n 0=false:=by
 cases n;.simp at h
 rename_i n;rfl
def aou{f o:R}(h:Hq P s f=O o):fO P s (.ptr u off) f=O (.ptr u (off+o)):=by
 unfold Hq at h;split at h<;>try cases h
 rename_i fs D;split at h
 .rename_i fd y;split at h;.rename_i i F;split at h<;>cases h;rename_i A;simp[fO,D,y,F,aht A]
  cases h
 cases h
theorem axu{f:R}{x:ak}(h:Oh P s f x=O v)(hx:aJ ρ I x a):∃r,Dk P s f (O a)=O r/\oX ρ I v r:=by
 unfold Oh at h;split at h;.split at h<;>cases h;rename_i o y;obtain⟨u,h1,rfl⟩:=hx;exact⟨_,aou y,by rw[aJ];grind,kM aw Q⟩
 .split at h<;>cases h;rename_i o y;obtain⟨u,b,r,rfl,h2⟩:=hx;exact⟨_,aou y,by rw[aJ];grind,kM aw Q⟩
 cases h
theorem GD{u:R}(h:pZ P t=O (sz,u)):∃e i,P.underlying t=O (.slice e)/\P.info? e=O i/\i.size=sz/\i.bytes=u/\gr i.size 0=W/\0<sz:=by grind[pZ,aht]
theorem anw(h:GL P t=O (n,sz)):∃e i,P.underlying t=O (.array n e)/\P.info? e=O i/\i.size=sz:=by grind[GL]
def aBV(h:RP I (.sl es X) b){e:be}(u:es[i]? =O e):
 ∃v off lim r sz,b=.slice v off es.length lim/\I v=O r/\(es=[]\/lim=X/\r.sz=sz)/\off+es.length*sz<=r.cells.length/\cx I sz es ((r.cells.drop off).take (es.length*sz)):=by
 rcases h with⟨h⟩|h
 .simp_all
 .exact h
theorem aIq{x:ak}(h:Nk P t x ix=O v)(hx:aJ ρ I x a)(hy:aJ ρ I ix b):∃r,iL P t a b=O r/\oX ρ I v r:=by
 unfold Nk at h;split at h<;>try cases h
 rename_i i hi;obtain⟨kd,rfl⟩:=U1 hi hy;split at h
 .split at h
  .rename_i sz S e D N;split at h<;>try cases h
   obtain⟨K,A,h1,h2,J,h4,_⟩:=GD D;obtain⟨u,off,lim,r,M,rfl,Z,_,k3,Y⟩:=aBV (hx) N;obtain⟨g1,g2,g3⟩:=afH Y N;refine⟨.ptr u (off+i*A.size),?_,?_,kM aw Q⟩;.simp only[iL,h1,h2];rw[cD ((pC.1 N).1)]
   rw[aJ];grind[amQ,acs]
  cases h
 .split at h
  .rename_i M S D;split at h<;>try cases h
   rename_i F;obtain⟨K,A,h1,h2,J,h4,_⟩:=GD D;obtain⟨u,Z,rfl⟩:=hx;refine⟨.ptr u (0+i*A.size),?_,?_,kM aw Q⟩;.simp only[iL,h1,h2];rw[cD F.1]
   rw[aJ];simp_all
  cases h
 .rename_i y;split at h
  .rename_i n sz D;split at h<;>try cases h
   rename_i F;obtain⟨K,A,h1,h2,J⟩:=anw D;obtain⟨u,Z,rfl⟩:=hx;refine⟨.ptr u (y+i*A.size),?_,?_,kM aw Q⟩;.simp only[iL,h1,h2];rw[cD F]
   rw[aJ];grind
  cases h
 .rename_i y;split at h
  .rename_i n sz D;split at h<;>try cases h
   rename_i F;obtain⟨K,A,h1,h2,J⟩:=anw D;obtain⟨u,o,r,rfl,k2,k3,Y⟩:=hx;refine⟨.ptr u (o+y+i*A.size),?_,?_,kM aw Q⟩;.simp only[iL,h1,h2];rw[cD F]
   rw[J];rw[aJ];grind
  cases h
 cases h
theorem arO{x:ak}(h:S5 P t x=O v)(hx:aJ ρ I x a):∃r,dh P t a=O r/\oX ρ I v r:=by
 unfold S5 at h;split at h
 .split at h<;>cases h;rename_i y;unfold wP at y;split at y
  .rename_i e A;have D:∀n,oX ρ I (.sc (.int .i64 n)) (.int .i64 n):=λ n=>⟨by simp only[aJ];exact⟨sp,Q⟩,kM aw Q⟩
   rcases hx with⟨rfl,rfl|rfl⟩|⟨_,_,_,_,_,rfl,_⟩
   .exact⟨_,by simp[dh,A],D 0⟩
   .exact⟨_,by simp[dh,A],D 0⟩
   exact⟨_,by simp[dh,A],D _⟩
  cases y
 .split at h<;>cases h;rename_i y;unfold wP at y;split at y;.rename_i e A;obtain⟨u,_,rfl⟩:=hx;exact⟨_,by simp[dh,A];rfl,by simp only[aJ];exact⟨sp,Q⟩,kM aw Q⟩
  cases y
 .split at h;.rw[aJ]at hx;grind[KY]
  cases h
 cases h
def awh{x:ak}(h:yM i x=O v)(hx:aJ ρ I x a):∃r,CU i (O a)=O r/\oX ρ I v r:=by
 unfold yM at h;split at h
 .split at h<;>cases h;rename_i w u;rcases hx with rfl|⟨bs,rfl,h2⟩
  .simp at u
  obtain⟨b,A,y⟩:=J9 h2 u;exact⟨b,A,su y,ur⟩
 cases h
theorem azu(P:aA)(ty:bj)(v:ak):JU P ty v=v\/(v=.sl [] (O 0)/\∃sz,JU P ty v=.sl [] (O sz)):=by grind[JU]
def lJ.aFa{s:nq}(h:lJ G s es 0 a):es=[]/\a=.aq:=by
 rcases h with h|⟨_⟩
 .exact h
 omega
theorem agR{ty:bj}{x:eN}(h:aJ ρ I v a)(y:vr G D x v.cells a.cells):aJ ρ I (Bz P tk ty v) a/\(tk=W->tw (Bz P tk ty v).cells a.cells)/\vr G D x (Bz P tk ty v).cells a.cells:=by
 unfold Bz;cases tk;.exact⟨su h,λ _=>ur,ur.x G D x⟩
 rcases azu P ty v with e|⟨e,sz,A⟩
 .simp_all
 rw[A];subst e;refine⟨h,λ k=>bk,λ j es u b e1 e2=>.inl ?_⟩;cases j
 .simp[ak.cells]at e1;rcases y 0 [] 0 b rfl e2 with k|⟨t,_,k⟩
  .grind
  exact⟨e1.1,k.aFa.2⟩
 rename_i j;simp[ak.cells]at e1
end
section
variable{pl:yg}{v:ak}
variable{P:aA}{ng:R}{gl:bH}{G:Gh}{D:R}{T:VT}{T':aM}{ρ:Bx}{I:Im}
theorem ark:∀{aah:aF} {u:be},wE aah u=true->bu ρ I u aah/\tw u aah/\u.all ak.cell=true:=by
 intro aah u h;induction aah generalizing u with
 |nil=>
  cases u;.exact⟨lX.2 Q,(λ j es sz a e _=>by simp at e),Q⟩
  rename_i v u;cases v<;>simp[wE]at h
 |cons a aah J=>
  cases u;.cases a<;>simp[wE]at h
  rename_i v u
  have y:wE aah u=true/\aJ ρ I v a/\(∀es sz,v=.sl es (O sz)->es=[]/\a=.aq)/\v.cell=true:=by
   unfold wE at h;split at h;.grind
   .rename_i h1 h2;cases h1;cases h2;refine⟨h,by simp[aJ,RP],?_,Q⟩;simp
   .rename_i h1 h2;cases h1;cases h2;simp at h;exact⟨h.2,⟨by rw[h.1],Q⟩,aw,Q⟩
   .rename_i h1 h2;cases h1;cases h2;simp at h;exact⟨h.2,⟨by simp_all,Q⟩,aw,Q⟩
   .rename_i h1 h2;cases h1;cases h2;simp at h;exact⟨h.2,⟨by rw[h.1],Q⟩,aw,Q⟩
   .rename_i h1 h2;cases h1;cases h2;exact⟨h,by simp only[aJ];exact⟨sp,Q⟩,aw,Q⟩
   .rename_i h1 h2;cases h1;cases h2;exact⟨h,by simp only[aJ];exact⟨sp,Q⟩,aw,Q⟩
   cases h
  obtain⟨F,D,M,A⟩:=y;obtain⟨i1,i2,i3⟩:=J F;refine⟨bJ.2 ⟨a,aah,Q,D,i1⟩,λ j es sz b e K=>?_,by simp[A,i3]⟩;cases j;.simp_all
  rename_i j;exact i2 j es sz b e K
theorem afA(h:JH a=V):a=.agg a.cells:=by cases a<;>simp_all [JH,au.cells]
def aw7(h:JH a=W):a.cells=[a]:=by cases a<;>simp_all [JH,au.cells]
theorem QN{z:ak}(h:qZ P t=O z):∃a,fW P t=O a/\aJ ρ I z a/\bu ρ I z.cells a.cells/\tw z.cells a.cells/\z.ji=false/\z.cells.all ak.cell=V/\(∀y,z=.agg y->a=.agg a.cells):=by
 unfold qZ at h;split at h
 .rename_i a y J N;cases A:wE a.cells y;.grind
  obtain⟨h1,h2,D⟩:=ark (ρ:=ρ) (I:=I) A;cases u:JH a
  .rw[A,u]at h;have M:=aw7 u;split at h;.rename_i e;cases e
   .cases h;simp only[ny,Oz,adY]at D;have F:z.cells=[z]:=by cases z<;>simp_all [ak.cell,ak.cells]
    have K:z.ji=false:=by cases z<;>simp_all [ak.cell,ak.ji]
    grind[bJ,ak.cell]
   cases h
  rw[A,u]at h;cases h;refine⟨a,J,?_,h1,h2,Q,D,λ y _=>afA u⟩;simp only[aJ];grind[afA]
 cases h
def aa1(P:aA)(fs:B Field)(i:R):lY:=
 match fs[i]?with
 |O f=>(match P.info? f.type with|O j=>O (f.offset,j.size)|X=>X)
 |X=>X
theorem ahE:∀{fs:B Field} {pl:yg},Qd P fs=O pl->(∀i:R,aa1 P fs i=pl[i]?)/\fs.all (λ (f:Field)=>(P.info? f.type).isSome)=V
 |[],pl,h=>by cases h;grind[aa1]
 |f::fs,pl,h=>by
  unfold Qd at h;split at h;.rename_i i l y u;obtain⟨h1⟩:=ahE u;grind[aa1]
  cases h
theorem afx{y:R->lY}(Y:∀i,y i=pl[i]?)(Qqq:R->aP->R->au->Prop):
 ∀{S:rK} {M:q9} {aah:wi} {cells F:be} {u:aF},M.length=S.length->aah.length=S.length->
  (∀(n i:R) (v:ak),M[n]? =O (i,v)->∃a,aah[n]? =O (i,a)/\aJ ρ I v a/\∀o P,pl[i]? =O (o,P)->∀(j:R) es sz c,v.cells[j]? =O (.sl es (O sz))->a.cells[j]? =O c->Qqq (o+j) es sz c)->
  bu ρ I cells u->cells.all ak.cell=V->(∀(j:R) es sz c,cells[j]? =O (.sl es (O sz))->u[j]? =O c->Qqq j es sz c)->oZ pl cells M=O F->
  ∃D,fill y u aah=O D/\bu ρ I F D/\F.all ak.cell=V/\∀(j:R) es sz c,F[j]? =O (.sl es (O sz))->D[j]? =O c->Qqq j es sz c
 |[],[],[],cells,F,u,_,_,_,N,hc,hq,h=>by cases h;exact⟨u,Q,N,hc,hq⟩
 |(k,x)::S,(i,v)::M,aah,cells,F,u,K,A,hp,N,hc,hq,h=>by
  obtain⟨a,ha,Z,ac⟩:=hp 0 i v Q;cases aah;.simp at ha
  rename_i a0 aah;rw[oZ]at h;split at h<;>try cases h
  rename_i off size ad;split at h<;>try cases h
  rename_i ht ab ae;have J:=Kx Z ht;have ag:=sQ J;have af:=sQ N;have aa:=ara Z ht
  have:=afx Y Qqq (by simpa using K) (by simpa using A)
   (λ n i v e=>hp (n+1) i v (by simpa using e)) (VS N J off)
   (by grind[eR])
   (λ j es sz c e e'=>by grind[eR,eV]) h
  grind[fill,abN,hP]
 |[],_::_,_,_,_,_,K,_,_,_,_,_,_=>by simp at K
 |_::_,[],_,_,_,_,K,_,_,_,_,_,_=>by simp at K
 |[],[],_::_,_,_,_,_,A,_,_,_,_,_=>by simp at A
def Ax.len:∀{u:rK} {y:q9} {aah:wi},Ax G D u y aah->y.length=u.length/\aah.length=u.length
 |[],[],[],_=>⟨Q,Q⟩
 |(_,_)::u,(_,_)::y,(_,_)::aah,h=>by have:=Ax.len h.2.2.2.2;simp[this.1,this.2]
 |[],_::_,_,h=>h.elim
 |[],[],_::_,h=>h.elim
 |_::_,[],_,h=>h.elim
 |_::_,_::_,[],h=>h.elim
theorem Ax.get:∀{y:rK} {u:q9} {aah:wi},Ax G D y u aah->∀{n i:R} {v:ak},u[n]? =O (i,v)->
 ∃x a,y[n]? =O (i,x)/\aah[n]? =O (i,a)/\aJ (dL (D+1) G.ρ) G.I v a/\vr G D x v.cells a.cells
 |[],[],[],_,n,_,_,e=>by simp at e
 |(_,x)::y,(_,_)::u,(_,a)::aah,h,n,i,v,e=>by
  obtain⟨rfl,rfl,h1,h2,h⟩:=h;cases n;.obtain⟨rfl⟩:=e;exact⟨x,a,Q,Q,h1,h2⟩
  rename_i n;simpa using Ax.get h e
 |[],_::_,_,h,_,_,_,_=>h.elim
 |[],[],_::_,h,_,_,_,_=>h.elim
 |_::_,[],_,h,_,_,_,_=>h.elim
 |_::_,_::_,[],h,_,_,_,_=>h.elim
def EZ(pl:yg):rK->R->bA
 |[],_=>X
 |(i,.tmp t)::u,s=>if t=s then(pl[i]?).map (·.1)else EZ pl u s
 |_::u,s=>EZ pl u s
theorem aaW:∀{u:rK} {n i:R} {t:Tmp},u[n]? =O (i,.tmp t)->t∈tL u
 |[],n,_,_,e=>by simp at e
 |(j,x)::u,n,i,t,e=>by
  rw[tL,wa];cases n;.grind[mz]
  rename_i n;exact .inr (aaW e)
theorem NH:∀{ps:rK} {n i o z:R} {t:Tmp},Jz (tL ps)=V->ps[n]? =O (i,.tmp t)->pl[i]? =O (o,z)->EZ pl ps t=O o
 |[],n,_,_,_,_,_,e,_=>by simp at e
 |(j,x)::ps,n,i,o,z,t,u,e,y=>by
  cases n;.grind[EZ]
  rename_i n;cases x with
  |tmp s=>
   rw[tL,mz,apH,Jz,bq]at u;have A:s≠t:=by grind[aaW]
   rw[EZ,aR A];exact NH u.2 e y
  |const w=>exact NH (ps:=ps) (by simpa[tL,mz]using u) e y
  |global g=>exact NH (ps:=ps) (by simpa[tL,mz]using u) e y
  |func f=>exact NH (ps:=ps) (by simpa[tL,mz]using u) e y
def PR(G:Gh)(D:R)(src:lC)(v:ak)(a:au):Prop:=aJ (dL (D+1) G.ρ) G.I v a/\∃g:R->R->bA,∀(j:R) es sz c,v.cells[j]? =O (.sl es (O sz))->a.cells[j]? =O c->(es=[]/\c=.aq)\/∃t∈src,∃u,g t u=O j/\lJ G (.tmp D t u) es sz c
def oX.pr(h:oX (dL (D+1) G.ρ) G.I v a)(src:lC):PR G D src v a:=⟨h.1,λ _ _=>X,λ j es sz c e u=>.inl (h.2 j es sz c e u)⟩
theorem vr.pr{x:eN}(h1:aJ (dL (D+1) G.ρ) G.I v a)(h2:vr G D x v.cells a.cells):PR G D (mz x) v a:=
 ⟨h1,λ _ j=>O j,λ j es sz c e u=>by
  rcases h2 j es sz c e u with k|⟨t,rfl,k⟩
  .exact .inl k
  grind[mz]⟩
theorem amm{A:rK}{u:q9}{aah:wi}(K:Ax G D A u aah)(hd:tk=V->Jz (tL A)=V)
 (h:Ky P t (cond tk u (u.map λ p=>(p.1,dg p.2)))=O v):∃a,mc P t (O aah)=O a/\PR G D (cond tk (tL A) []) v a:=by
 unfold Ky at h;split at h<;>try cases h
 rename_i z pl y;split at h<;>cases h;rename_i cs hf;unfold aaf at y;split at y
 .rename_i z' fs Z hu;split at y<;>cases y;rename_i l hl;obtain⟨za,N,_,z3,M,_,z6,z7⟩:=QN Z;obtain⟨p1,p2⟩:=ahE hl;have aa:∀i,Dc P fs i=pl[i]? :=λ i=>p1 i
  obtain⟨l1,l2⟩:=K.len
  have Y:=afx aa
   (λ j es sz c=>(es=[]/\c=.aq)\/(tk=V/\∃t∈tL A,∃J,(EZ pl A t).map (·+J)=O j/\lJ G (.tmp D t J) es sz c))
   bP l2
   (λ n i v e=>by
    cases tk with
    |true=>
     obtain⟨x,a,e1,e2,e3,e4⟩:=K.get e;refine⟨a,e2,e3,λ o S ho j es sz c k k'=>?_⟩;rcases e4 j es sz c k k' with q|⟨t,rfl,q⟩
     .exact .inl q
     refine .inr ⟨Q,t,aaW e1,j,?_,q⟩;rw[NH (hd Q) e1 ho];rfl
    |false=>
     rw[adZ,mu]at e;cases ew:u[n]?;.grind
     rename_i w;rw[ew]at e;obtain⟨rfl⟩:=e;obtain⟨x,a,e1,e2,e3,e4⟩:=K.get (ew);refine⟨a,e2,su e3,λ o S ho j es sz c k k'=>.inl (ur j es sz c k k')⟩)
   z3 z6 (λ j es sz c e F=>.inl (M j es sz c e F)) hf
  obtain⟨ad,k1,k2,k3,k4⟩:=Y;refine⟨.agg ad,by simp[mc,N,hu,p2,k1],?_,λ t J=>(EZ pl A t).map (·+J),λ j es sz c e F=>?_⟩;.rw[aJ];grind
  rcases k4 j es sz c e F with q|⟨rfl,q⟩
  .exact .inl q
  exact .inr q
 .rename_i z' m e Z hu;split at y<;>cases y;rename_i ie ab;obtain⟨za,N,z2,z3,M,_,z6,z7⟩:=QN Z;obtain⟨l1⟩:=K.len
  have hn:(cond tk u (u.map λ p=>(p.1,dg p.2)))=[]:=by
   cases hc:(cond tk u _);.rfl
   rename_i q qs;grind[oZ]
  rw[hn]at hf;cases hf;have hv:u=[]:=by cases tk<;>simpa using hn
  have ha:aah=[]:=bP;subst ha;obtain⟨ac,rfl⟩:∃ac,za=.agg ac:=⟨_,(z7 _ Q)⟩;refine⟨.agg ac,?_,z2,λ _ _=>X,λ j es sz c e F=>.inl (M j es sz c e F)⟩;simp[mc,N,hu,ab]
 .cases y
def akD:∀{u:be} {bs:aF},bu ρ I u bs->bu ρ I (u.map dg) bs
 |[],_,h=>h
 |v::u,_,h=>by obtain⟨c,y,rfl,h1,h2⟩:=bJ.1 h;exact bJ.2 ⟨c,y,Q,su h1,akD h2⟩
theorem awb(A:tJ G D T T')(u:mJ ng gl G){tk:mi}{ty:bj}{o:Op}(h:pX P gl tk ty T o=O v):∃a,nU P ng T' o=O a/\PR G D (pj tk o) v a:=by
 unfold pX at h;split at h
 .split at h<;>try cases h
  rename_i x w hw;obtain⟨a,h1,h2,M⟩:=jk A u hw;obtain⟨Y,m2,m3⟩:=agR (P:=P) (tk:=tk) h2 M;refine⟨a,h1,?_⟩;cases tk;.exact oX.pr ⟨Y,m2 Q⟩ _
  exact vr.pr Y m3
 .split at h<;>try cases h
  rename_i x w hw;obtain⟨a,h1,h2,M⟩:=jk A u hw;obtain⟨Y,m2,m3⟩:=agR (P:=P) (tk:=tk) h2 M;refine⟨a,h1,?_⟩;cases tk;.exact oX.pr ⟨Y,m2 Q⟩ _
  exact vr.pr Y m3
 .split at h;.rename_i c a b hc y K;obtain⟨c',h1,h2,_⟩:=jk A u hc;obtain⟨N,M,J,_⟩:=jk A u y;obtain⟨Z,h5,h6,_⟩:=jk A u K;obtain⟨r,S,F⟩:=aIl h h2 J h6;refine⟨r,?_,F.pr _⟩;grind[nU]
  cases h
 .split at h
  .rename_i l hl;obtain⟨aah,h1,h2⟩:=Vv A u hl;split at h
   .split at h;.rename_i hn;obtain⟨a,M,J⟩:=amm (P:=P) (tk:=V) h2 (λ _=>hn) h;exact⟨a,by grind[nU],J⟩
    cases h
   obtain⟨a,M,J⟩:=amm (P:=P) (tk:=W) h2 (nofun) h;exact⟨a,by grind[nU],J⟩
  cases h
 .split at h;.rename_i a y;obtain⟨N,h1,h2,_⟩:=jk A u y;obtain⟨r,S,F⟩:=azB h h2;exact⟨r,by grind[nU],F.pr _⟩
  cases h
 .split at h;.rename_i a b y K;obtain⟨N,h1,h2,_⟩:=jk A u y;obtain⟨Z,M,J,_⟩:=jk A u K;obtain⟨r,S,F⟩:=aug h h2 J;exact⟨r,by grind[nU,DA],F.pr _⟩
  cases h
 .split at h;.rename_i a y;obtain⟨N,h1,h2,_⟩:=jk A u y;obtain⟨r,S,F⟩:=aDx h h2;exact⟨r,by grind[nU,D4],F.pr _⟩
  cases h
 .split at h;.rename_i a y;obtain⟨N,h1,h2,_⟩:=jk A u y;obtain⟨r,S,F⟩:=aro h h2;exact⟨r,by grind[nU],F.pr _⟩
  cases h
 .rename_i f0 aa;split at h<;>try cases h
  rename_i b K;obtain⟨bs,h1,h2⟩:=Uj A u K;refine⟨.func f0 [] bs,?_,oX.pr ⟨?_,kM aw Q⟩ _⟩;.simp only[nU,ajl,h1];rfl
  exact⟨bs,Q,akD h2⟩
 .split at h;.rename_i a y;obtain⟨N,h1,h2,_⟩:=jk A u y;obtain⟨r,S,F⟩:=axu h h2;exact⟨r,by grind[nU],F.pr _⟩
  cases h
 .split at h;.rename_i a b y K;obtain⟨N,h1,h2,_⟩:=jk A u y;obtain⟨Z,M,J,_⟩:=jk A u K;obtain⟨r,S,F⟩:=aIq h h2 J;exact⟨r,by grind[nU,DI],F.pr _⟩
  cases h
 .split at h;.rename_i a b y K;obtain⟨N,h1,h2,_⟩:=jk A u y;obtain⟨Z,M,J,_⟩:=jk A u K;obtain⟨r,S,F⟩:=aEO h h2 J;exact⟨r,by grind[nU,D9],F.pr _⟩
  cases h
 .split at h;.rename_i a y;obtain⟨N,h1,h2,_⟩:=jk A u y;obtain⟨r,S,F⟩:=awh h h2;exact⟨r,by grind[nU],F.pr _⟩
  cases h
 .split at h;.rename_i a y;obtain⟨N,h1,h2,_⟩:=jk A u y;obtain⟨r,S,F⟩:=arO h h2;exact⟨r,by grind[nU,Cn],F.pr _⟩
  cases h
 .split at h
  .rename_i a b y K;obtain⟨N,h1,h2,_⟩:=jk A u y;obtain⟨Z,M,J,_⟩:=jk A u K;unfold La at h;split at h;.cases h;obtain⟨rfl,_⟩:=h2;obtain⟨rfl,_⟩:=J;refine⟨_,by simp only[nU,Cn,h1,M];rfl,⟨by simp[aJ,jP],λ _ _=>X,λ j es sz c e _=>?_⟩⟩;grind[ak.cells]
   cases h
  cases h
 .split at h
  .rename_i a b y K;obtain⟨N,h1,h2,_⟩:=jk A u y;obtain⟨Z,M,J,_⟩:=jk A u K;unfold Fx at h;split at h;.cases h;obtain⟨rfl,_⟩:=h2;obtain⟨rfl,_⟩:=J;refine⟨_,by simp only[nU,Cn,h1,M];rfl,⟨by simp[aJ,jP],λ _ _=>X,λ j es sz c e _=>?_⟩⟩;grind[ak.cells]
   cases h
  cases h
 cases h
end
section
variable{G':Gh}{d:fV}{s:nq}{v:ak}{φ:AS}
variable{P:aA}{ng:R}{gl:bH}{G:Gh}{D:R}{T:VT}{T':aM}{st:aG}{H:aj}
def kJ:vN->R->R->Prop
 |.clean,_,_=>awk
 |.box d k,d',k'=>d'=d/\k'=k
 |.all,_,_=>True
def rZ:R->Prop:=λ _=>awk
def KA:rV->fV->R->Prop
 |.new V,d,k=>d=O k
 |.zg,d,k=>d=O k
 |_,_,_=>awk
def wS(D:R):nq->Prop
 |.tmp d _ _=>d<D
 |.box _ _ _=>awk
 |.up _=>True
structure dF (D:R) (G:Gh) (st:aG) (H:aj) (G':Gh) (st':aG) (H':aj) (tch:EJ) (nk:vH):Prop where
 im:bO G.I G'.I
 py:∀d k,d<D->G'.ρ d k=G.ρ d k
 qB:∀k,¬nk k->G'.ρ D k=G.ρ D k
 live:∀d k u,(cu st' d k).isSome=true->G'.ρ d k=some u->u<H.ae->(cu st d k).isSome=true/\G.ρ d k=some u
 ae:H.ae<=H'.ae
 rows:∀u,u<H.ae->H'.ah.get u=H.ah.get u\/∃d k,tch d k/\(cu st d k).isSome=true/\G.ρ d k=some u
 qR:∀f s,wS D s->G.own f=some s->G'.own f=some s/\G'.tp f=G.tp f
 sM:st'.up.length=st.up.length
 qq:∀u r,G'.I u=some r->u<H.ae->G.I u=some r
 qf:∀f s,G'.own f=some s->f<H.ae->∃s',G.own f=some s'
 aV:∀f,f<H.ae->G.own f=none->H'.aV.get f=H.aV.get f
theorem dF.refl(D:R)(G:Gh)(st:aG)(H:aj)(tch:EJ)(nk:vH):dF D G st H G st H tch nk:=⟨bO.refl _,λ _ _ _=>rfl,λ _ _=>rfl,λ _ _ _ h1 h2 _=>⟨h1,h2⟩,aZ _,λ _ _=>.inl Q,λ _ _ _ h=>⟨h,Q⟩,Q,λ _ _ e _=>e,λ _ s e _=>⟨s,e⟩,λ _ _ _=>rfl⟩
theorem dF.trans{G1 F G3:Gh}{S P N:aG}{H1 Z:aj}{M K J:EJ}{n1 n2 n3:vH}(a:dF D G1 S H1 F P H2 M n1)(b:dF D F P H2 G3 N Z K n2)(h1:∀d k,M d k->J d k)(h2:∀d k,K d k->J d k)(h3:∀k,n1 k->n3 k)(h4:∀k,n2 k->n3 k):dF D G1 S H1 G3 N Z J n3 where
 qB:=λ k h=>(b.qB k λ e=>h (h4 k e)).trans (a.qB k λ e=>h (h3 k e))
 im:=a.im.trans b.im
 py:=λ d k h=>(b.py d k h).trans (a.py d k h)
 live:=λ d k u h e hu=>by obtain⟨e1,e2⟩:=b.live d k u h e (eU hu a.ae);exact a.live d k u e1 e2 hu
 ae:=fI a.ae b.ae
 rows:=λ u hu=>by
  rcases b.rows u (eU hu a.ae)with e|⟨d,k,e1,e2,e3⟩
  .rw[e];rcases a.rows u hu with e|⟨d⟩
   .exact .inl e
   grind
  obtain⟨e4⟩:=a.live d k u e2 e3 hu;grind
 qR:=λ f s h e=>by obtain⟨e1,e2⟩:=a.qR f s h e;obtain⟨e3,e4⟩:=b.qR f s h e1;exact⟨e3,e4.trans e2⟩
 sM:=b.sM.trans a.sM
 qq:=λ u r e hu=>a.qq u r (b.qq u r e (eU hu a.ae)) hu
 qf:=λ f s e y=>by obtain⟨Y,A⟩:=b.qf f s e (eU y a.ae);exact a.qf f Y A y
 aV:=λ f y e=>by
  have h2:F.own f=none:=by
   cases e2:F.own f;.rfl
   rename_i s;obtain⟨Y,A⟩:=a.qf f s e2 y;rw[e]at A;cases A
  rw[b.aV f (eU y a.ae) h2,a.aV f y e]
def dF.ot{y:aG}{F:aj}{t A:EJ}{n n':vH}(a:dF D G st H G' y F t n)(h:∀d k,t d k->A d k)(h2:∀k,n k->n' k):dF D G st H G' y F A n':={a with qB:=λ k e=>a.qB k λ J=>e (h2 k J),rows:=λ u hu=>(a.rows u hu).imp id λ ⟨d,k,e1,e2,e3⟩=>⟨d,k,h _ _ e1,e2,e3⟩}
structure Ok (ng:R) (gl:bH) (D:R) (G:Gh) (T:VT) (T':aM) (st:aG) (H:aj):Prop where
 cA:cH G st H
 tmp:tJ G D T T'
 gX:st.up.length=D
 jD:mJ ng gl G
def mJ.mono(h:mJ ng gl G)(k:bO G.I G'.I):mJ ng gl G':=λ g A e=>by obtain⟨h1,r,h2,y,u⟩:=h g A e;exact⟨h1,r,k _ _ h2,y,B0 k _ _ u⟩
def ig(G:Gh)(φ:AS):Gh:={G with own:=λ f=>(G.own f).bind φ}
def lJ.ig{u:nq}{es:aP}(h:lJ G s es sz a)(e:φ s=O u):lJ (Abs.ig G φ) u es sz a:=by
 rcases h with h|⟨v,off,r,h1,h2,J,F,h5,D,A,y⟩
 .exact .inl h
 refine .inr ⟨v,off,r,h1,h2,J,F,h5,D,?_,y⟩;show(G.own _).bind φ=O u;exact A▸e
def Sf.ig(h:Sf G H):Sf (Abs.ig G φ) H:=λ f s e=>by
 have e:(G.own f).bind φ=O s:=e;cases u:G.own f;.rw[u]at e;cases e
 rename_i y;exact h f y u
def ZF{f:R}(h:G.own f=none):(Abs.ig G φ).own f=none:=by show(G.own f).bind φ=none;rw[h];rfl
def Ei{f:R}(e:(Abs.ig G φ).own f=O s):∃s',G.own f=O s':=by
 have e:(G.own f).bind φ=O s:=e;cases h:G.own f;.rw[h]at e;cases e
 rename_i s';exact⟨s',Q⟩
def cH.ig(h:cH G st H)(y:∀d k j,φ (.box d k j)=O (.box d k j)):cH (Abs.ig G φ) st H where
 gd:=h.gd
 gI:=h.gI
 box:=λ d k A e=>by obtain⟨u,r,b⟩:=h.box d k A e;exact⟨u,r,{ref:=b.ref,row:=b.row,rw:=b.rw,sz:=b.sz,aI:=b.aI,mem:=b.mem,im:=b.im,un:=ZF b.un,cells:=b.cells,cell:=b.cell,own:=λ j es sz a e1 e2=>(b.own j es sz a e1 e2).ig (y _ _ _)}⟩
 inj:=h.inj
 aI:=h.aI.ig
 oT:=h.oT
def aD4(v:ak):eZ (eZ v)=eZ v:=by cases v<;>rfl
theorem am3(v:ak):dg (dg v)=dg v:=by
 cases v with
 |agg u=>
  simp only[dg,lP,ak.agg.injEq]
  congr 1
  funext v;exact aD4 v
 |_=>rfl
theorem Qo:∀(l:lC) (T:VT) (i:R),lk (kI l T) i=if i∈l then(lk T i).map dg else lk T i
 |[],T,i=>by simp[kI]
 |t::l,T,i=>by rw[kI,Qo l];grind[lk,am3]
theorem abe{T':aM}:ai (dZ n T' d a) i=if d=O i/\i<n then a else ai T' i:=by
 cases d;.simp[ama]
 rename_i d;grind[Tu,Fi,Tr.jg]
theorem Ym{T:VT}:lk (fk n T d v) i=if d=O i/\i<n then O v else lk T i:=by
 cases d;.simp[fk]
 rename_i d;grind[fk,CB]
def NM(D:R)(src:lC)(dst:fV)(g:R->R->bA):nq->uy
 |.tmp d i j=>if d=D then(if i∈src then(match dst,g i j with|O t,O u=>O (.tmp D t u)|_,_=>X)else if dst=O i then X else O (.tmp d i j))else O (.tmp d i j)
 |s=>O s
def dF.tmps{g:R->R->bA}:dF D G st H (ig G (NM D src dst g)) st H (kJ .clean) rZ where
 im:=bO.refl _
 py:=λ _ _ _=>rfl
 qB:=λ _ _=>rfl
 live:=λ d k u h e _=>⟨h,e⟩
 ae:=aZ _
 rows:=λ _ _=>.inl Q
 qR:=λ f s h e=>by
  refine⟨?_,Q⟩;show(G.own f).bind _=O s;rw[e];cases s with
  |tmp d i j=>
   have:d<D:=h;simp only[Option.bind_some,NM];rw[aR aa]
  |box d k j=>exact h.elim
  |up s=>rfl
 sM:=rfl
 qq:=λ _ _ e _=>e
 qf:=λ f s e _=>Ei e
 aV:=λ _ _ _=>rfl
def kB(n:R):fV->fV
 |O d=>if d<n then O d else X
 |X=>X
theorem Hn:kB n d=O i↔d=O i/\i<n:=by
 cases d;.simp[kB]
 rename_i d;grind[kB]
def stepT(h:Ok ng gl D G T T' st H)(M:PR G D src v a):
 ∃G',Ok ng gl D G' (fk n (kI src T) dst v) (dZ n T' dst a) st H/\dF D G st H G' st H (kJ .clean) rZ:=by
 obtain⟨K,g,P⟩:=M;refine⟨ig G (NM D src (kB n dst) g),⟨h.cA.ig λ _ _ _=>rfl,λ i w e=>?_,h.gX,h.jD.mono (bO.refl _)⟩,dF.tmps⟩;rw[Ym]at e;rw[abe];split at e
 .rename_i u;cases e;rw[aY u];refine⟨K,λ j es sz c e1 e2=>?_⟩;rcases P j es sz c e1 e2 with k|⟨t,J,S,N,k⟩
  .exact .inl k
  refine k.ig ?_;simp[NM,aY J,N,Hn.2 u]
 .rename_i u;rw[aR u];rw[Qo]at e;by_cases A:i∈src
  .rw[aY A]at e;cases y:lk T i;.rw[y]at e;cases e
   rename_i F;rw[y]at e;simp at e;subst e;exact⟨su (h.tmp i F y).1,ur.own _ _⟩
  rw[aR A]at e;obtain⟨h1,h2⟩:=h.tmp i w e;refine⟨h1,λ j es sz c e1 e2=>(h2 j es sz c e1 e2).ig ?_⟩;simp only[NM,aR (λ k=>u (Hn.1 k))];split<;>rfl
end
section
variable{cs cs2:be}{v:ak}{φ:AS}
variable{P:aA}{ng:R}{gl:bH}{G:Gh}{D:R}{T:VT}{T':aM}{st:aG}{H:aj}
theorem rF:∀{S:gC} {d k:R} {cs:be},jW S d k=O cs->d<S.length
 |F::S,d,k,cs,h=>by
  unfold jW at h;split at h;.rename_i e;simp[e]
  have:=rF h;simp;omega
def abC(h:cu st d k=O cs):d<=st.up.length:=by
 unfold cu at h;split at h;.omega
 have:=rF h;omega
theorem DV:∀(S:gC) (d k:R) (cs:be),(qm S d k cs).length=S.length
 |[],_,_,_=>rfl
 |F::S,d,k,cs=>by
  unfold qm;split;.simp
  simp[DV S]
theorem TX:∀(S:gC) (d k d' k':R) (cs:be),jW (qm S d k cs) d' k'=if d'=d/\k'=k then(jW S d k).map (λ _=>cs)else jW S d' k'
 |[],d,k,d',k',cs=>by simp[qm,jW]
 |F::S,d,k,d',k',cs=>by
  unfold qm;by_cases h:d=S.length;.grind[jW,ac6]
  rw[aR h];unfold jW;rw[DV];by_cases u:d'=S.length;.grind
  rw[aR u,aR u,aR h];exact TX S d k d' k' cs
theorem ain:cu (tv st d k cs) d' k'=if d'=d/\k'=k then(cu st d k).map (λ _=>cs)else cu st d' k':=by grind[tv,cu,ac6,DV,TX]
theorem aGO:cu (tR st d k cs) d' k'=if d'=d/\k'=k then(cu st d k).map (λ _=>cs)else cu st d' k':=by
 have:cu (tR st d k cs) d' k'=cu (tv st d k cs) d' k':=by unfold tv tR cu;split<;>rfl
 rw[this,ain]
theorem amH:(tv st d k cs).up.length=st.up.length:=by grind[tv,DV]
theorem amv:(tR st d k cs).up.length=st.up.length:=by grind[tR,DV]
theorem cH.put(h:cH G st H){ac2:aF}{dp:aG}
 (hb:cu st d k=O cs) (D:Av G H d k cs u r) (aa:∀d' k',cu dp d' k'=if d'=d/\k'=k then O cs2 else cu st d' k')
 (M:H2.ae=H.ae) (P:∀f,H2.aV.get f=H.aV.get f) (hu:H2.ah.get u=O {r with cells:=ac2}) (S:∀v,v≠u->H2.ah.get v=H.ah.get v)
 (hl:ac2.length=r.cells.length) (hc:bu (dL (d+1) G.ρ) G.I cs2 ac2) (ac:cs2.all ak.cell=V) (how:tH (Abs.ig G φ) (.box d k) cs2 ac2)
 (Y:∀d' k' j,(d'≠d\/k'≠k)->φ (.box d' k' j)=O (.box d' k' j)):cH (Abs.ig G φ) dp H2:=by
 have ab:∀d' k' A J K,(d'≠d\/k'≠k)->cu st d' k'=O A->Av G H d' k' A J K->J≠u:=by
  rintro d' k' A J K N hg b rfl
  have:=h.inj d' k' d k A cs J hg hb b.ref D.ref;grind
 refine⟨⟨λ v rv e=>?_,λ f mem v rv a b e=>?_,λ f mem a=>by rw[P]at a;exact M▸h.gd.mem f mem a⟩,λ v rv e=>?_,λ d' k' A e=>?_,λ d1 k1 d2 k2 c1 c2 v e1 e2 e3 e4=>?_,λ f s e=>?_,λ d k u e=>M▸h.oT d k u e⟩
 .rw[M];by_cases F:v=u;.subst F;rw[hu]at e;cases e;exact h.wf v r D.row
  rw[S v F]at e;exact h.wf v rv e
 .rw[P]at a;by_cases F:v=u;.subst F;rw[hu]at e;cases e;exact h.gd.aI f mem v r a b D.row
  rw[S v F]at e;exact h.gd.aI f mem v rv a b e
 .have e:G.I v=O rv:=e;by_cases F:v=u;.subst F;rw[D.im]at e;cases e
  rw[S v F];exact h.gI v rv e
 .rw[aa]at e;split at e;.rename_i N;cases e;obtain⟨rfl,rfl⟩:=N;exact⟨u,_,{ref:=D.ref,row:=hu,rw:=D.rw,sz:=D.sz,aI:=D.aI,mem:=by rw[P];exact D.mem,im:=D.im,un:=ZF D.un,cells:=hc,cell:=ac,own:=how}⟩
  have N:d'≠d\/k'≠k:=by grind
  obtain⟨J,K,b⟩:=h.box d' k' A e;exact⟨J,K,{ref:=b.ref,row:=(S J (ab d' k' A J K N e b))▸b.row,rw:=b.rw,sz:=b.sz,aI:=b.aI,mem:=by rw[P];exact b.mem,im:=b.im,un:=ZF b.un,cells:=b.cells,cell:=b.cell,own:=λ j es sz a x y=>(b.own j es sz a x y).ig (Y _ _ _ N)}⟩
 .have g1:∃c,cu st d1 k1=O c:=by grind
  have g2:∃c,cu st d2 k2=O c:=by grind
  obtain⟨c1,g1⟩:=g1;obtain⟨c2,g2⟩:=g2;exact h.inj d1 k1 d2 k2 c1 c2 v g1 g2 e3 e4
 .obtain⟨h1,mem,h2,h3⟩:=h.aI.ig f s e;refine⟨M▸h1,mem,by rw[P];exact h2,λ v F=>⟨M▸(h3 v F).1,λ rv e=>?_⟩⟩;by_cases Z:v=u;.subst Z;rw[hu]at e;cases e;simpa[hl]using((h3 v F).2 r D.row)
  grind
theorem dF.put{dp:aG}(S:cu st d k=O cs)(N:G.ρ d k=O u)
 (J:∀d' k',cu dp d' k'=if d'=d/\k'=k then O cs2 else cu st d' k') (A:dp.up.length=st.up.length) (K:H2.ae=H.ae) (F:∀f,H2.aV.get f=H.aV.get f) (P:∀v,v≠u->H2.ah.get v=H.ah.get v) (M:H2.ah.get u=H.ah.get u\/tch d k)
 (y:∀s,wS D s->φ s=O s):dF D G st H (ig G φ) dp H2 tch rZ where
 im:=bO.refl _
 py:=λ _ _ _=>rfl
 qB:=λ _ _=>rfl
 live:=λ d' k' v h e _=>by refine⟨?_,e⟩;grind
 ae:=Nat.le_of_eq K.symm
 rows:=λ v _=>by grind
 qR:=λ f s h e=>by refine⟨?_,Q⟩;show(G.own f).bind φ=O s;rw[e];exact y s h
 sM:=A
 qq:=λ _ _ e _=>e
 qf:=λ f s e _=>Ei e
 aV:=λ f _ _=>F f
theorem tJ.step{u:Gh}(h:tJ G D T T'){n:R}{src:lC}{dst:fV}{v:ak}{a:au}(y:mQ (dL (D+1) G.ρ) (dL (D+1) u.ρ))(K:bO G.I u.I)
 (P:aJ (dL (D+1) u.ρ) u.I v a) (S:∀i,kB n dst=O i->tH u (.tmp D i) v.cells a.cells)
 (N:∀i j es sz c,i∉src->kB n dst≠O i->lJ G (.tmp D i j) es sz c->lJ u (.tmp D i j) es sz c):tJ u D (fk n (kI src T) dst v) (dZ n T' dst a):=by
 intro i w e;rw[Ym]at e;rw[abe];split at e;.grind[Hn]
 .rename_i J;rw[aR J];rw[Qo]at e;by_cases F:i∈src
  .rw[aY F]at e;cases A:lk T i;.rw[A]at e;cases e
   rename_i M;rw[A]at e;simp at e;subst e;exact⟨su (wW y K _ _ (h i M A).1),ur.own _ _⟩
  rw[aR F]at e;obtain⟨h1,h2⟩:=h i w e;exact⟨wW y K _ _ h1,λ j es sz c e1 e2=>N i j es sz c F (λ k=>J (Hn.1 k)) (h2 j es sz c e1 e2)⟩
theorem apb{b:mi}(h:HK P t=O (b,n)):∃d i,P.underlying t=O d/\P.info? t=O i/\xm d=b/\i.size=n:=by grind[HK]
theorem ajK{l:be}(h:yA cs off n=O l):off+n<=cs.length/\l=(cs.drop off).take n:=by grind[yA]
theorem Q1{ρ:Bx}{I:Im}{g:fE}{b:R}(h:Jj P t cs off=O (v,n))(hg:g u=O r)(hb:b+cs.length<=r.cells.length)(S:bu ρ I cs ((r.cells.drop b).take cs.length))(ab:cs.all ak.cell=true):
 ∃a,cr P g t (.ptr u (b+off))=O a/\aJ ρ I v a/\v.ji=W/\off+n<=cs.length/\v.cells=(cs.drop off).take n/\a.cells=(r.cells.drop (b+off)).take n:=by
 unfold Jj at h;split at h
 .rename_i m J;split at h
  .rename_i l M;cases h;obtain⟨d,i,h1,h2,h3,h4⟩:=apb J;obtain⟨h5,rfl⟩:=ajK M;refine⟨.agg _,?_,?_,Q,h5,Q,Q⟩;.grind[cr,aQ,hP]
   refine⟨?_,_,Q,?_⟩;.grind
   have:=Nx n (M7 off S);grind[amQ,acs]
  cases h
 .rename_i m J;split at h<;>try cases h
  rename_i c l M;obtain⟨d,i,h1,h2,h3,h4⟩:=apb J;obtain⟨h5,Z⟩:=ajK M;have A:=Nx 1 (M7 off S);rw[Ev,List.take_take,sJ,Ow aa,<-Z]at A;obtain⟨a,aah,e,Y,h8⟩:=bJ.1 A;have D:(a::aah).length=1:=bP;have has:aah=[]:=mF (by simpa using D);have K:l=[]:=by grind[List.length_take]
  subst has K;have y:v.cell=true:=by grind[List.mem_of_mem_drop,List.mem_of_mem_take]
  have F:v.cells=[v]:=by cases v<;>simp_all [ak.cell,ak.cells]
  have N:a.cells=[a]:=by have:=C1 Y y;cases a<;>simp_all [au.dm,au.cells]
  refine⟨a,?_,Y,?_,h5,by rw[F,Z],by rw[N,e]⟩;.simp only[cr,h1,h2,h3,aQ,hg];grind[hP]
  cases v<;>simp_all [ak.cell,ak.ji]
 .cases h
def Jp(D d k off n:R)(dst:fV):nq->uy
 |.tmp d' i j=>if d'=D/\dst=O i then X else O (.tmp d' i j)
 |.box d' k' j=>if d'=d/\k'=k/\off<=j/\j<off+n then(match dst with|O t=>O (.tmp D t (j-off))|X=>X)else O (.box d' k' j)
 |s=>O s
theorem FC(h:p:=by rw[KL];omega):p:=h
theorem aF8(h:Ok ng gl D G T T' st H){n:R}{dst:fV}{x:ak}{ax:au}{b:lY}{J:aG}(hx:aJ (dL (D+1) G.ρ) G.I x ax)(y:Ad P tk st t x=O (v,b,J)):
 ∃a S,cr P H.ah.get t ax=O a/\Ok ng gl D S (fk n T dst v) (dZ n T' dst a) J H/\dF D G st H S J H (kJ .clean) rZ/\
  (∀d k,b=O (d,k)->∃u,G.ρ d k=O u/\(cu st d k).isSome=V/\∀F:R->oR,F u=H.ah.get u->cr P F t ax=O a)/\
  (b=X->∀F:R->oR,(∀u r,G.I u=O r->F u=O r)->cr P F t ax=O a):=by
 unfold Ad at y;split at y
 .rename_i cs off;split at y
  .rename_i w m hw;cases y;simp only[aJ]at hx;obtain⟨u,o,r,rfl,h2,h3,h4⟩:=hx;have ai:=(Io h4);obtain⟨a,N,M,k3,_⟩:=Q1 (ρ:=dL (D+1) G.ρ) (I:=G.I) hw (h.cA.gI u r h2) h3 (Gq h4) ai.2.2;obtain⟨S,g1,g2⟩:=stepT (n:=n) (dst:=dst) h (src:=[]) (oX.pr ⟨su M,ur⟩ []);refine⟨a,S,N,g1,g2,λ d k e=>bk,λ _ F ag=>?_⟩;have:cr P F t (.ptr u (o+off))=cr P H.ah.get t (.ptr u (o+off)):=by simp only[cr,aQ,ag u r h2,h.cA.gI u r h2]
   rw[this];exact N
  cases y
 .rename_i d k off;split at y<;>try cases y
  rename_i cs K;split at y
  .rename_i w m hw;simp only[aJ]at hx;obtain⟨u,hu,rfl⟩:=hx;have ao:d<D+1:=by grind[dL]
   have ad:G.ρ d k=O u:=KH _ _ _ _ _ hu;obtain⟨u2,r,A⟩:=h.cA.box d k cs K;have:u2=u:=by have:=A.ref;grind
   subst this;have Z:=sQ A.cells;have af:bu (dL (d+1) G.ρ) G.I cs ((r.cells.drop 0).take cs.length):=by rw[gU,<-Z,List.take_length];exact A.cells
   obtain⟨a,N,M,k3,k4,k5,k6⟩:=Q1 hw A.row aa af A.cell;simp only[Ew]at N k6;have M:aJ (dL (D+1) G.ρ) G.I w a:=wW (UY aa _) (bO.refl _) _ _ M;have ae:∀F:R->oR,F u2=H.ah.get u2->cr P F t (.ptr u2 off)=O a:=λ F e=>by grind[cr,aQ]
   cases tk;.cases y;obtain⟨S,g1,g2⟩:=stepT (n:=n) (dst:=dst) h (src:=[]) (oX.pr ⟨su M,ur⟩ []);refine⟨a,S,N,g1,g2,λ d' k' e=>?_,λ e=>bk⟩;grind
   cases y;have an:m<=cs.length-off:=aa;have Y:∀d' k',cu (tR st d k (eR cs off (((cs.drop off).take m).map eZ))) d' k'=if d'=d/\k'=k then O (eR cs off (((cs.drop off).take m).map eZ))else cu st d' k':=by grind[aGO]
   have al:eV r.cells off ((r.cells.drop off).take m)=r.cells:=by grind[eV,ahy]
   have ab:(((cs.drop off).take m).map eZ).length=m:=gD;have am:=MC (Nx m (M7 off A.cells));refine⟨a,ig G (Jp D d k off m (kB n dst)),N,⟨?_,?_,by rw[amv];exact h.gX,h.jD.mono (bO.refl _)⟩,?_,λ d' k' e=>?_,λ e=>bk⟩
   .refine h.cA.put K A Y Q (λ _=>rfl) (r:=r) (ac2:=r.cells) A.row (λ _ _=>rfl) Q ?_ ?_ ?_ ?_;.grind[VS]
    .have hc:=A.cell;grind[eR,Pm]
    .intro j es sz c e1 e2;have g1:(cs.take off).length=off:=FC;simp only[eR]at e1;rw[KM]at e1;rcases yi j off with hj|hj
     .rw[AV aa,wT,aY hj]at e1;refine(A.own j es sz c e1 e2).ig ?_;simp only[Jp];rw[aR aa]
     rw[uH aa,g1]at e1;rcases yi (j-off) m with ac|ac
     .grind[aby]
     rw[uH (by rw[ab];exact ac),Eu,ab,(aa:off+m+(j-off-m)=j)]at e1;refine(A.own j es sz c e1 e2).ig ?_;simp only[Jp];rw[aR aa]
    intro d' k' j hk;simp only[Jp];grind
   .refine h.tmp.step (src:=[]) (mQ.refl _) (bO.refl _) M (λ i hi j es sz c e1 e2=>?_) (λ i j es sz c _ hd ho=>ho.ig ?_)
    .rw[k5,wT]at e1;rw[k6,wT]at e2;split at e1;.rename_i hj;rw[aY hj]at e2;rw[Eu]at e1 e2;refine(A.own (off+j) es sz c e1 e2).ig ?_;show(if d=d/\k=k/\off<=off+j/\off+j<off+m then _ else _)=_;grind
     cases e1
    grind[Jp]
   .refine dF.put K ad Y amv Q (λ _=>rfl) (λ _ _=>rfl) (.inl Q) λ s hs=>?_
    cases s with
    |tmp d' i j=>
     have:d'<D:=hs;grind[Jp]
    |box _ _ _=>exact hs.elim
    |up s=>rfl
   grind
  cases y
 .cases y
end
section
variable{v:ak}{ρ':Bx}
variable{P:aA}{ng:R}{gl:bH}{G:Gh}{D:R}{T:VT}{T':aM}{st:aG}{H:aj}{ρ:Bx}{I:Im}
def Qn(ρ:Bx)(I:Im):fN->cR->Prop
 |X,X=>True
 |O v,O a=>aJ ρ I v a
 |_,_=>awk
def akv(F:tJ G D T T')(A:mJ ng gl G){x:AR}{y:fN}(h:Is gl T x=O y):∃y',vg ng T' x=O y'/\Qn (dL (D+1) G.ρ) G.I y y':=by
 unfold Is at h;split at h;.cases h;exact⟨X,Q,sp⟩
 split at h<;>cases h;rename_i o v u;obtain⟨a,h1,h2,_⟩:=jk F A u;exact⟨O a,by rw[vg,h1],h2⟩
def SY{x:fN}{y:cR}(h:oI x d=O n)(k:Qn ρ I x y):oM y d=O n:=by
 cases x
 .cases y;.simpa[oI,oM]using h
  exact k.elim
 rename_i v;cases y;.exact k.elim
 rename_i a;obtain⟨kd,rfl⟩:=U1 h k;rfl
theorem amb{es:aP}{v:R}{lim:bA}(J:I v=O r)(D:es=[]\/lim=X/\r.sz=sz)(F:off+es.length*sz<=r.cells.length)(y:cx I sz es ((r.cells.drop off).take (es.length*sz))){l h:R}(h1:l<=h)(h2:h<=es.length){u:bA}(A:u=lim):
 RP I (.sl ((es.drop l).take (h-l)) X) (.slice v (off+l*sz) (h-l) u):=by
 have hm:(l+(h-l))*sz<=es.length*sz:=uI _ aa;rw[RP,(bP:((es.drop l).take _).length=h-l)];have:=aij (h-l) (VK l y);grind[amQ,acs]
theorem aqf{x:ak}{lo hi:fN}{ax:au}{F K:cR}{g:fE}(h:Fz P t x lo hi=O v)(hx:aJ ρ I x ax)(J:Qn ρ I lo F)(M:Qn ρ I hi K)(hg:∀u r,I u=O r->g u=O r):
 ∃a,kU P g t ax F K=O a/\oX ρ I v a:=by
 unfold Fz at h;split at h
 .rename_i es o;split at h<;>try cases h
  rename_i sz ah l m hq hl hm;split at h<;>try cases h
  rename_i hc;obtain⟨h1,h2,h3⟩:=hc;obtain⟨te,ti,q1,q2,q3,q4,q5,q6⟩:=GD hq;have D:=SY hl J;have A:=SY hm M;have y:∀a,RP I _ a->oX ρ I (.sl ((es.drop l).take (m-l)) X) a:=λ a k=>⟨k,kM aw Q⟩
  have Z:=hx;rcases Z with⟨rfl,rfl|rfl⟩|⟨u,off,lim,r,sz',rfl,Y,k2,S,k4⟩
  .simp at h2;subst h2;have:l=0:=aa;subst this;exact⟨.aq,by simp at A;simp only[kU,q1,D,A,q2],y _ hx⟩
  .simp at h2;subst h2;have:l=0:=aa;subst this;exact⟨.eY,by simp at A;simp only[kU,q1,D,A,q2],y _ hx⟩
  cases es;.simp at h2;subst h2;have:l=0:=aa;subst this;refine⟨.slice u off 0 lim,?_,y _ hx⟩;simp at A⊢;simp only[kU,q1,D,A,q2]
  rename_i e es;have ab:sz'=sz:=by grind[VG]
  subst ab;simp at A⊢;simp at h2 S;cases lim
  .have N:m<=(r.cells.length-off)/sz':=by rw[aKg q6];have:m*sz'<=(es.length+1)*sz':=uI _ h2;omega
   have ad:jy g ti.size (.slice u off (es.length+1) X)=O (r.exact,(r.cells.length-off)/sz'):=by grind[jy,abN,hP]
   simp only[kU,q1,q2,ad,D,A];rw[cD h1,cD N];cases ae:th (l+1) _
   .have af:(r.cells.length-off)/sz'<=l:=by grind[hP]
    have ac:m=l:=aa;subst ac;cases h0:gr m 0
    .cases ag:r.exact;.refine⟨_,Q,y _ ?_⟩;rw[RP];grind
     refine⟨_,Q,y _ ?_⟩;rw[(aw:(List.drop m (e::es)).take (m-m)=[])];refine .inr ⟨u,off,O 0,r,sz',Q,Y,aw,gD,?_⟩;simp[cx]
    refine⟨_,Q,y _ ?_⟩;simpa using(amb Y k2 (by simpa using S) k4 (l:=0) (h:=0) (aZ _) (kG _) Q)
   refine⟨_,Q,y _ ?_⟩;rw[q3];exact amb Y k2 (by simpa using S) k4 h1 (by simpa using h2) Q
  rename_i c;grind
 .rename_i s;split at h
  .rename_i l m hs hl hm;split at h<;>try cases h
   obtain⟨rfl,_⟩:=hx;refine⟨.str ((s.drop l).take (m-l)),?_,?_,kM aw Q⟩;.simp only[kU,hs,SY hl J,SY hm M];grind[hP]
   simp only[aJ];exact⟨sp,Q⟩
  cases h
 .cases h
def ar2{ρ:Bx}{I:Im}(h:aJ ρ I v b)(u:v.data=V):aJ ρ' I v b:=by
 cases v with
 |sc a=>exact h
 |sl es o=>exact h
 |_=>simp[ak.data]at u
theorem TA{ρ:Bx}{I:Im}:∀{u:be} {bs:aF},bu ρ I u bs->u.all ak.data=V->bu ρ' I u bs
 |[],_,h,_=>h
 |v::u,_,h,y=>by obtain⟨c,A,rfl,h1,h2⟩:=bJ.1 h;rw[ny,bq]at y;exact bJ.2 ⟨c,A,Q,ar2 h1 y.1,TA h2 y.2⟩
def Fq(D d k off n:R)(src:lC)(dst:fV):nq->uy
 |.tmp d' i j=>if d'=D then(if i∈src then O (.box d k (off+j))else if dst=O i then X else O (.tmp d' i j))else O (.tmp d' i j)
 |.box d' k' j=>if d'=d/\k'=k/\off<=j/\j<off+n then X else O (.box d' k' j)
 |s=>O s
theorem aEP{H:aj}{new:aF}(y:H.ah.get u=O r)(h1:r.ro=W)(h2:off+new.length<=r.cells.length)(D:new.all au.dm=V)(A:r.aI=u)(hm:H.aV.get u=O [u]):
 write H u off new=O {H with ah:=H.ah.set u (O {r with cells:=eV r.cells off new})}:=by
 grind[write,hP,oq,abN]
theorem aJ2{a new:aF}(h:off+new.length<=a.length):(eV a off new).length=a.length:=by grind[eV]
theorem aCa(h:Ok ng gl D G T T' st H){x:eN}{p v:ak}{ap av:au}{K:aG}(hp:aJ (dL (D+1) G.ρ) G.I p ap)(hv:aJ (dL (D+1) G.ρ) G.I v av)(ho:vr G D x v.cells av.cells)
 (F:HE P st t p v=O (K,d,k)):∃H' G',dD P H t ap av=O H'/\Ok ng gl D G' (fk n (kI (mz x) T) dst (.bp [])) (dZ n T' dst (.tuple [])) K H'/\dF D G st H G' K H' (kJ (.box d k)) rZ:=by
 unfold HE at F;split at F<;>try cases F
 rename_i d0 k0 off m hq;split at F<;>try cases F
 rename_i cs M;split at F<;>try cases F
 rename_i ht y Y hc;have y:v.cells.length=m:=by simpa using y
 have Y:off+m<=cs.length:=by simpa using Y
 simp only[bq,rP,UK]at hc;obtain⟨ag,af⟩:=hc;simp only[aJ]at hp;obtain⟨u,hu,rfl⟩:=hp;have ac:G.ρ d k=O u:=KH _ _ _ _ _ hu;obtain⟨u2,r,A⟩:=h.cA.box d k cs M;have:u2=u:=by have:=A.ref;grind
 subst this;have ai:=sQ A.cells;have J:=Kx hv ht;have ab:=sQ J
 have N:bu (dL (d+1) G.ρ) G.I v.cells av.cells:=by
  rcases ag with e|e
  .rw[show d=D by rw[e,h.gX]];exact J
  exact TA J e
 have ad:∃i,P.info? t=O i/\i.size=m:=by grind[Pv]
 obtain⟨i,hi,al⟩:=ad;have Z:=aEP A.row A.rw (off:=off) (new:=av.cells) aa (S8 J af) A.aI A.mem;have S:∀d' k',cu (tv st d k (eR cs off v.cells)) d' k'=if d'=d/\k'=k then O (eR cs off v.cells)else cu st d' k':=by grind[ain]
 refine⟨{H with ah:=H.ah.set u2 (O {r with cells:=eV r.cells off av.cells})},ig G (Fq D d k off m (mz x) (kB n dst)),?_,⟨?_,?_,by rw[amH];exact h.gX,h.jD.mono (bO.refl _)⟩,?_⟩
 rotate_left
 .refine h.cA.put M A S Q (λ _=>rfl) (r:=r) (ac2:=eV r.cells off av.cells) (Tr.tA _ _ _) (λ w Z=>Tr.uW _ (λ e=>Z e.symm) _) (aJ2 aa) (VS A.cells N off) ?_ ?_ ?_;.have hc:=A.cell;grind[eR]
  .intro j es sz c e1 e2;have g1:(cs.take off).length=off:=FC;have g2:(r.cells.take off).length=off:=FC;simp only[eR]at e1;simp only[eV]at e2;rw[KM]at e1 e2;rcases yi j off with hj|hj
   .rw[AV aa,wT,aY hj]at e1 e2;refine(A.own j es sz c e1 e2).ig ?_;grind[Fq]
   rw[uH aa]at e1 e2;rw[g1]at e1;rw[g2]at e2;rcases yi (j-off) m with ae|ae
   .rw[AV aa]at e1 e2;rcases ho (j-off) es sz c e1 e2 with q|⟨t',rfl,q⟩
    .exact .inl q
    refine q.ig ?_;grind[Fq,mz]
   rw[uH aa,Eu]at e1 e2;rw[y,(aa:off+m+(j-off-m)=j)]at e1;rw[ab,y,(aa:off+m+(j-off-m)=j)]at e2;refine(A.own j es sz c e1 e2).ig ?_;grind[Fq]
  grind[Fq]
 .refine h.tmp.step (mQ.refl _) (bO.refl _) (by simp[aJ]) (λ i hi j es sz c e1 e2=>?_) (λ i j es sz c hi hd ho=>ho.ig ?_);.exact(kM (v:=.bp []) aw Q).own _ _ j es sz c e1 e2
  grind[Fq]
 .refine dF.put M ac S amH Q (λ _=>rfl) (λ w Z=>Tr.uW _ (λ e=>Z e.symm) _) (.inr ⟨Q,Q⟩) λ s F=>?_
  cases s with
  |tmp d' i j=>
   have:d'<D:=F;grind[Fq]
  |box _ _ _=>exact F.elim
  |up s=>rfl
 .simp only[dD,hi];grind[abN]
end
section
variable{cs:be}{es:aP}{s s':nq}{s0:uy}{st':aG}{φ:AS}
variable{P:aA}{ng:R}{gl:bH}{G:Gh}{D:R}{T:VT}{T':aM}{st:aG}{H:aj}{ρ:Bx}{I:Im}
def newRow(H:aj)(cells:aF)(ex:mi)(sz:R):Row:={cells,aI:=H.ae,start:=0,exact:=ex,ro:=W,sz}
theorem zY{cells:aF}:(alloc H cells ex sz).ah.get u=if u=H.ae then O (newRow H cells ex sz)else H.ah.get u:=by
 show(H.ah.set _ _).get u=_;rw[Tr.jg];by_cases h:u=H.ae;.rw[aY h,aY h.symm];rfl
 grind
theorem Gj{cells:aF}:(alloc H cells ex sz).aV.get u=if u=H.ae then O [H.ae]else H.aV.get u:=by show(H.aV.set _ _).get u=_;grind[Tr.jg]
def cH.lt(h:cH G st H)(e:G.I u=O r):u<H.ae/\r.aI<H.ae:=h.wf u r (h.gI u r e)
def Av.lt(h:cH G st H)(b:Av G H d k cs u r):u<H.ae:=(h.wf u r b.row).1
def DQ(G:Gh)(H:aj)(cells:aF)(ex:mi)(sz:R)(s:uy)(φ:AS):Gh where
 ρ:=G.ρ
 I:=λ u=>if u=H.ae then O (newRow H cells ex sz)else G.I u
 own:=λ f=>if f=H.ae then s else(G.own f).bind φ
 tp:=λ f=>if f=H.ae then cells.length else G.tp f
def Bo(h:cH G st H)(cells:aF)(ex:mi)(sz:R)(s:uy)(φ:AS):bO G.I (DQ G H cells ex sz s φ).I:=λ u r e=>by show(if u=H.ae then _ else G.I u)=O r;rw[aR (by have:=(h.lt e).1;omega)];exact e
theorem lJ.Bh(h:cH G st H){cells:aF}{u:R}(k:lJ G s es sz a)(e:φ s=O s'):lJ (DQ G H cells ex u s0 φ) s' es sz a:=by
 rcases k with k|⟨v,off,r,h1,h2,D,A,h5,y,J⟩
 .exact .inl k
 have F:=h.lt h2;refine .inr ⟨v,off,r,h1,Bo h _ _ _ _ _ v r h2,D,A,h5,y,?_,?_⟩;.show(if r.aI=H.ae then s0 else(G.own _).bind φ)=O s';grind
 show(if r.aI=H.ae then _ else G.tp _)=_;grind
theorem cH.Bh(h:cH G st H){cells:aF}(A:∀d k j,φ (.box d k j)=O (.box d k j)):cH (DQ G H cells ex sz s0 φ) st (alloc H cells ex sz)where
 gd:=jb h.gd _ _ _
 gI:=λ u r e=>by
  have e:(if u=H.ae then O _ else G.I u)=O r:=e;rw[zY];split at e;.grind
  rename_i hu;rw[aR hu];exact h.gI u r e
 box:=λ d k cs e=>by
  obtain⟨u,r,b⟩:=h.box d k cs e;have hu:=Av.lt h b;refine⟨u,r,{ref:=b.ref,row:=?_,rw:=b.rw,sz:=b.sz,aI:=b.aI,mem:=?_,im:=?_,un:=?_,cells:=An (mQ.refl _) (Bo h _ _ _ _ _) _ _ b.cells,cell:=b.cell,own:=λ j es sz a e1 e2=>(b.own j es sz a e1 e2).Bh h (A _ _ _)}⟩;.rw[zY,aR aa];exact b.row
  .rw[Gj,aR aa];exact b.mem
  .show(if u=H.ae then _ else G.I u)=X;rw[aR aa];exact b.im
  show(if u=H.ae then s0 else(G.own u).bind φ)=X;rw[aR aa,b.un];rfl
 inj:=h.inj
 oT:=λ d k u e=>jc (h.oT d k u e)
 aI:=λ f s e=>by
  have e:(if f=H.ae then s0 else(G.own f).bind φ)=O s:=e;show f<H.ae+1/\∃mem,(alloc H cells ex sz).aV.get f=O mem/\∀u∈mem,u<H.ae+1/\∀ru,(alloc H cells ex sz).ah.get u=O ru->ru.start+ru.cells.length<=(if f=H.ae then cells.length else G.tp f);rw[Gj];split at e;.rename_i y;subst y;grind[zY,newRow]
  rename_i y;obtain⟨h1,mem,h2,D⟩:=h.aI.ig f s e;refine⟨aa,mem,(aR y)▸h2,λ u hu=>⟨by have:=(D u hu).1;omega,λ ru e=>?_⟩⟩;rw[zY,aR (by have:=(D u hu).1;omega)]at e;exact(aR y)▸(D u hu).2 ru e
theorem dF.Bh(h:cH G st H){cells:aF}{A:vH}(F:∀s,wS D s->φ s=O s):dF D G st H (DQ G H cells ex sz s0 φ) st (alloc H cells ex sz) tch A where
 im:=Bo h _ _ _ _ _
 py:=λ _ _ _=>rfl
 qB:=λ _ _=>rfl
 live:=λ d k u e e2 _=>⟨e,e2⟩
 ae:=mS _
 rows:=λ u hu=>.inl (by rw[zY,aR (by omega)])
 qR:=λ f s J e=>by
  have y:=(h.aI f s e).1;refine⟨?_,?_⟩;.show(if f=H.ae then s0 else(G.own f).bind φ)=O s;grind
  show(if f=H.ae then _ else G.tp f)=_;rw[aR aa]
 sM:=rfl
 qq:=λ u r e hu=>by have e:(if u=H.ae then O _ else G.I u)=O r:=e;grind
 qf:=λ f s e y=>by have e:(if f=H.ae then s0 else(G.own f).bind φ)=O s:=e;rw[aR aa]at e;exact Ei e
 aV:=λ f y _=>by rw[Gj,aR (by omega)]
def xR(G:Gh)(H:aj)(D k:R)(φ:AS):Gh where
 ρ:=λ d k'=>if d=D/\k'=k then O H.ae else G.ρ d k'
 I:=G.I
 own:=λ f=>(G.own f).bind φ
 tp:=G.tp
theorem U5(y:R):UA D k (dL y G.ρ) (dL y (xR G H D k φ).ρ):=λ d' k' u F e=>by
 unfold dL at e⊢;split at e;.rename_i A;rw[aY A];show(if d'=D/\k'=k then _ else G.ρ d' k')=O u;grind
 cases e
def azU{y:R}(h:y<=D):mQ (dL y G.ρ) (dL y (xR G H D k φ).ρ):=λ d' k' u e=>by
 unfold dL at e⊢;split at e;.rename_i A;rw[aY A];show(if d'=D/\k'=k then _ else G.ρ d' k')=O u;rw[aR aa];exact e
 cases e
theorem Yz(h:iX T st k cs=O st'):wz st.up.length k T=V/\xO st.up.length k (np k st.cur)=V/\qd st.up.length k cs=V/\cs.all ak.cell=V/\
 st'.up=st.up/\∀d k',cu st' d k'=if d=st.up.length/\k'=k then O cs else cu st d k':=by
 unfold iX at h;split at h;.grind[cu,CB,RE]
 .cases h
def lJ.BW{u:R}(k:lJ G s es sz a)(e:φ s=O s'):lJ (xR G H D u φ) s' es sz a:=by
 rcases k with k|⟨v,off,r,h1,h2,K,J,h5,F,A,y⟩
 .exact .inl k
 refine .inr ⟨v,off,r,h1,h2,K,J,h5,F,?_,y⟩;show(G.own _).bind φ=O s';exact A▸e
theorem cH.BW(h:cH G st H)(Y:st.up.length=D){cells:aF}(hn:iX T st k cs=O st')(hr:bu (dL (D+1) G.ρ) G.I cs cells)(ho:tH (xR G H D k φ) (.box D k) cs cells)
 (K:∀d k' j,(d≠D\/k'≠k)->φ (.box d k' j)=O (.box d k' j)):cH (xR G H D k φ) st' (alloc H cells V 1):=by
 obtain⟨n1,n2,n3,n4,n5,J⟩:=Yz hn;rw[Y]at n1 n2 n3 J;refine⟨jb h.gd _ _ _,λ u r e=>?_,λ d k' N e=>?_,λ d1 S d2 P c1 c2 u e1 e2 e3 e4=>?_,λ f s e=>?_,λ d k' u e=>?_⟩;.rw[zY,aR (by have:=(h.lt e).1;omega)];exact h.gI u r e
 .rw[J]at e;split at e
  .rename_i A;cases e;obtain⟨rfl,rfl⟩:=A;refine⟨H.ae,newRow H cells V 1,{ref:=?_,row:=?_,rw:=rfl,sz:=rfl,aI:=rfl,mem:=?_,im:=?_,un:=?_,cells:=GU (U5 _) _ _ n3 hr,cell:=n4,own:=ho}⟩;.show(if d=d/\k'=k' then _ else _)=_;rw[aY ⟨Q,Q⟩]
   .rw[zY,aY Q]
   .rw[Gj,aY Q]
   .show G.I _=X;cases e:G.I _;.rfl
    rename_i r;have:=(h.lt e).1;omega
   show(G.own _).bind φ=X;cases e:G.own _;.rfl
   rename_i s;have:=(h.aI _ s e).1;omega
  have A:d≠D\/k'≠k:=by grind
  obtain⟨u,r,b⟩:=h.box d k' N e;have hu:=Av.lt h b;have ab:=abC e;refine⟨u,r,{ref:=?_,row:=?_,rw:=b.rw,sz:=b.sz,aI:=b.aI,mem:=?_,im:=b.im,un:=?_,cells:=?_,cell:=b.cell,own:=λ j es sz a e1 e2=>(b.own j es sz a e1 e2).BW (K _ _ _ A)}⟩;.show(if d=D/\k'=k then _ else G.ρ d k')=_;rw[aR bP];exact b.ref
  .rw[zY,aR aa];exact b.row
  .rw[Gj,aR aa];exact b.mem
  .show(G.own u).bind φ=X;rw[b.un];rfl
  by_cases hd:d=D;.subst hd;refine GU (U5 _) _ _ ?_ b.cells;unfold cu at e;rw[aY Y.symm]at e;refine adH (i:=k') n2 ?_;rw[RE,aR bP];exact e
  exact An (azU aa) (bO.refl _) _ _ b.cells
 .have y:∀d k' c,cu st' d k'=O c->(xR G H D k φ).ρ d k'=O u->(d=D/\k'=k/\u=H.ae)\/(∃c,cu st d k'=O c/\G.ρ d k'=O u/\u<H.ae):=by
   intro d k' c e F;have F:(if d=D/\k'=k then O _ else G.ρ d k')=O u:=F;rw[J]at e;split at e;.grind
   rename_i A;rw[aR A]at F;obtain⟨u',r,b⟩:=h.box d k' c e;have:u'=u:=by have:=b.ref;grind
   subst this;exact .inr ⟨c,e,F,Av.lt h b⟩
  rcases y d1 S c1 e1 e3 with⟨Z⟩|⟨ad,Z,a2,a3⟩
  .grind
  rcases y d2 P c2 e2 e4 with⟨b1⟩|⟨ac,b1,b2,b3⟩
  .omega
  exact h.inj d1 S d2 P _ _ u Z b1 a2 b2
 .obtain⟨h1,mem,h2,M⟩:=h.aI.ig f s e;show f<H.ae+1/\∃mem,(alloc H cells V 1).aV.get f=O mem/\∀u∈mem,u<H.ae+1/\∀ru,(alloc H cells V 1).ah.get u=O ru->ru.start+ru.cells.length<=G.tp f;refine⟨aa,mem,by grind[Gj],λ u hu=>⟨by have:=(M u hu).1;omega,λ ru e=>?_⟩⟩;rw[zY,aR (by have:=(M u hu).1;omega)]at e;exact(M u hu).2 ru e
 .have e:(if d=D/\k'=k then O _ else G.ρ d k')=O u:=e;show u<H.ae+1;split at e;.cases e;omega
  have:=h.oT d k' u e;omega
theorem dF.BW(h:cH G st H)(Y:st.up.length=D){cells:aF}(J:iX T st k cs=O st')(y:∀s,wS D s->φ s=O s):dF D G st H (xR G H D k φ) st' (alloc H cells V 1) tch (·=k):=by
 obtain⟨n1,n2,n3,M,n5,K⟩:=Yz J;refine⟨bO.refl _,λ d k' S=>?_,λ k' N=>?_,λ d k' u e A hu=>?_,mS _,λ u hu=>.inl (by rw[zY,aR (by omega)]),λ f s F e=>⟨?_,Q⟩,by rw[n5],λ _ _ e _=>e,λ f s e _=>Ei e,λ f P _=>by rw[Gj,aR (by omega)]⟩;.show(if d=D/\k'=k then _ else G.ρ d k')=_;rw[aR aa]
 .show(if D=D/\k'=k then _ else G.ρ D k')=_;grind
 .have A:(if d=D/\k'=k then O _ else G.ρ d k')=O u:=A;grind
 show(G.own f).bind φ=O s;rw[e];exact y s F
def tJ.BW(h:tJ G D T T'){v:ak}(M:wz D k T=V)(K:aJ (dL (D+1) (xR G H D k φ).ρ) G.I v a)(P:∀i,kB n dst=O i->tH (xR G H D k φ) (.tmp D i) v.cells a.cells)
 (N:∀i j,i∉src->kB n dst≠O i->φ (.tmp D i j)=O (.tmp D i j)):tJ (xR G H D k φ) D (fk n (kI src T) dst v) (dZ n T' dst a):=by
 have F:∀i w,lk T i=O w->aJ (dL _ (xR G H D k φ).ρ) _ w _:=λ i w e=>VZ (U5 _) _ _ (adD M e) (h i w e).1
 intro i w e;rw[Ym]at e;rw[abe];split at e;.rename_i u;cases e;exact(aY u)▸⟨K,P i (Hn.2 u)⟩
 .rename_i u;rw[aR u];rw[Qo]at e;by_cases A:i∈src
  .rw[aY A]at e;cases y:lk T i;.rw[y]at e;cases e
   rename_i J;rw[y]at e;simp at e;subst e;exact⟨su (F i J y),ur.own _ _⟩
  rw[aR A]at e;exact⟨F i w e,λ j es sz c e1 e2=>((h i w e).2 j es sz c e1 e2).BW (N i j A (λ k=>u (Hn.1 k)))⟩
end
section
variable{st':aG}{v:ak}{zs:aF}
variable{P:aA}{ng:R}{gl:bH}{G:Gh}{D:R}{T:VT}{T':aM}{st:aG}{H:aj}{ρ:Bx}{I:Im}
theorem RD{zc:be}(h:wg P t=O zc):∃e i za,P.underlying t=O (.slice e)/\P.info? e=O i/\fW P e=O za/\za.cells.length=i.size/\zc.length=i.size/\bu ρ I zc za.cells:=by
 unfold wg at h;split at h
 .split at h
  .rename_i z i u y;split at h;.obtain⟨za⟩:=QN (ρ:=ρ) (I:=I) u;grind[sQ]
   cases h
  cases h
 cases h
theorem akF{z:be}(u:dq I z zs)(y:z.length=sz):∀n:R,cx I sz (ef n z) (jS zs n)
 |0=>by simp[cx,jS]
 |n+1=>by
  have:=wm u;refine qa.2 ⟨y,by grind[jS],?_⟩;show cx I sz _ ((zs++jS zs n).drop sz);rw[aKf aa,OA aa];exact akF u y n
def aiw{z:be}(u:dq I z zs):∀n:R,dq I (ef n z).flatten (jS zs n)
 |0=>by simp[dq,jS]
 |n+1=>apr u (aiw u n)
theorem aiC{A:be}{y:aF}(K:A.length=sz)(D:dq I A y):∀{es:aP} {x:aF} {i:R},cx I sz es x->i<es.length->cx I sz (es.set i A) (eV x (i*sz) y)
 |[],_,_,_,u=>by simp at u
 |e::es,x,0,h,_=>by grind[qa,wm,eV]
 |e::es,x,i+1,h,u=>by
  obtain⟨h1,h2,M⟩:=qa.1 h;have J:=yP h;have F:(x.take sz).length=sz:=by grind[akW]
  have N:=aiC K D M (by simpa using u);have hx:eV x ((i+1)*sz) y=x.take sz++eV (x.drop sz) (i*sz) y:=by grind[eV,akW,acs]
  grind[qa]
theorem anO:∀{N:rK} {K:q9} {aah:wi} {es y:aP} {cells:aF},Ax G D N K aah->cx G.I sz es cells->sF sz es K=O y->
 ∃u,fill (λ j=>O (j*sz,sz)) cells aah=O u/\cx G.I sz y u/\y.length=es.length
 |[],[],[],es,y,cells,_,F,h=>by cases h;exact⟨cells,Q,F,Q⟩
 |(i0,x)::N,(i,v)::K,(i1,a)::aah,es,y,cells,M,F,h=>by
  obtain⟨e0,e1,h1,_,M⟩:=M;subst e0 e1;rw[sF]at h;split at h<;>try cases h
  rename_i Z Y J;have J:=by simpa using J
  have S:v.ji=false:=by
   cases v with
   |bp l=>grind[ak.cells,ak.data]
   |un=>grind[ak.cells,ak.data]
   |_=>rfl
  have A:=Kx h1 S;have P:=sQ A;obtain⟨u⟩:=anO M (aiC (by simpa using Y) (FQ A Z) F J) h;rw[fill];have aa:=yP F;have:(i1+1)*sz<=es.length*sz:=uI _ J;grind[abN,hP]
 |[],_::_,_,_,_,_,h,_,_=>h.elim
 |[],[],_::_,_,_,_,h,_,_=>h.elim
 |_::_,[],_,_,_,_,h,_,_=>h.elim
 |_::_,_::_,[],_,_,_,h,_,_=>h.elim
def zf(D:R)(dst:fV):nq->uy
 |.tmp d i j=>if d=D/\dst=O i then X else O (.tmp d i j)
 |s=>O s
theorem XX:∀s,wS D s->zf D dst s=O s
 |.tmp d i j,h=>by have:d<D:=h;grind[zf]
 |.box _ _ _,h=>h.elim
 |.up s,_=>rfl
def IZ(D k:R)(src:lC)(dst:fV):nq->uy
 |.tmp d i j=>if d=D then(if i∈src then O (.box D k j)else if dst=O i then X else O (.tmp d i j))else O (.tmp d i j)
 |.box d k' j=>if d=D/\k'=k then X else O (.box d k' j)
 |s=>O s
theorem aGs:∀s,wS D s->IZ D k src dst s=O s
 |.tmp d i j,h=>by have:d<D:=h;grind[IZ]
 |.box _ _ _,h=>h.elim
 |.up s,_=>rfl
theorem NZ(h:Ok ng gl D G T T' st H){J:be}{cells:aF}(F:iX T st k J=O st')(N:bu (dL (D+1) G.ρ) G.I J cells)
 (P:∀j es z c,J[j]? =O (.sl es (O z))->cells[j]? =O c->(es=[]/\c=.aq)\/∃t∈src,lJ G (.tmp D t j) es z c)
 (M:∀u:Bx,u D k=O H.ae->aJ (dL (D+1) u) G.I v a) (A:tw v.cells a.cells):
 ∃K,Ok ng gl D K (fk n (kI src T) dst v) (dZ n T' dst a) st' (alloc H cells V 1)/\dF D G st H K st' (alloc H cells V 1) (kJ .clean) (·=k):=by
 have y:=Yz F;refine⟨xR G H D k (IZ D k src (kB n dst)),⟨?_,?_,y.2.2.2.2.1▸h.gX,h.jD.mono (bO.refl _)⟩,dF.BW h.cA h.gX F aGs⟩
 .refine h.cA.BW h.gX F N (λ j es z c e1 e2=>?_) λ d k' j Y=>?_
  .rcases P j es z c e1 e2 with q|⟨t,S,q⟩
   .exact .inl q
   refine q.BW ?_;grind[IZ]
  grind[IZ]
 .have n1:=y.1;rw[h.gX]at n1;refine h.tmp.BW n1 (M _ ?_) (λ i _=>A.own _ _) λ i j Z hd=>?_
  .show(if D=D/\k=k then O _ else G.ρ D k)=_;rw[aY ⟨Q,Q⟩]
  grind[IZ]
theorem FZ(h:p:=by rw[br];omega):p:=h
theorem awH(h:Ok ng gl D G T T' st H){n:R}{dst:fV}{o:Op}{v:ak}{src:lC}(u:Di P gl tk T st dst o=O (v,src,st')):
 ∃a H' A,sy H (wM P ng T' o)=O (a,H')/\Ok ng gl D A (fk n (kI src T) dst v) (dZ n T' dst a) st' H'/\dF D G st H A st' H' (kJ .clean) (KA (.new (aiN o)) dst):=by
 unfold Di at u;split at u
 .split at u
  .rename_i t k z Z;split at u
   .rename_i s N;cases u;obtain⟨za,F,_,S,z4,_⟩:=QN (I:=G.I) Z;obtain⟨A,M,K⟩:=NZ (n:=n) (dst:=O k) (src:=[]) h N S (λ j es z c e1 e2=>.inl (z4 j es z c e1 e2)) (v:=.ptr st.up.length k 0) (a:=.ptr H.ae 0) (λ y e=>by exact⟨H.ae,by unfold dL;rw[aY (by rw[h.gX];omega),h.gX];exact e,Q⟩) (kM aw Q)
    exact⟨_,_,A,by simp only[wM,vW,F,sy,yu],M,K.ot (λ _ _ e=>e) (λ _ e=>by show O _=O _;rw[e])⟩
   cases u
  cases u
 .rename_i x;split at u
  .rename_i k w hw;split at u
   .rename_i s ht N;cases u;obtain⟨a,h1,h2,h3⟩:=jk h.tmp h.jD hw;have hc:=Kx h2 ht;have u:∀y:Bx,y D k=O H.ae->aJ (dL (D+1) y) G.I (.ptr st.up.length k 0) (.ptr H.ae 0):=λ y e=>by exact⟨H.ae,by unfold dL;rw[aY (by rw[h.gX];omega),h.gX];exact e,Q⟩
    cases tk;.obtain⟨A,M,K⟩:=NZ (n:=n) (dst:=O k) (src:=[]) h N (Kx (su h2) (by cases w<;>simp_all [dg,ak.ji])) (λ j es z c e1 e2=>.inl (ur j es z c e1 e2)) u (kM aw Q);exact⟨_,_,A,by simp only[wM,vW,h1,sy,yu],M,K.ot (λ _ _ e=>e) (λ _ e=>by show O _=O _;rw[e])⟩
    obtain⟨A,M,K⟩:=NZ (n:=n) (dst:=O k) (src:=mz x) h N hc (λ j es z c e1 e2=>by
     rcases h3 j es z c e1 e2 with q|⟨t',rfl,q⟩
     .exact .inl q
     grind[mz]) u (kM aw Q)
    exact⟨_,_,A,by simp only[wM,vW,h1,sy,yu],M,K.ot (λ _ _ e=>e) (λ _ e=>by show O _=O _;rw[e])⟩
   cases u
  cases u
 .rename_i t m ps;split at u<;>try cases u
  rename_i l sz al z hl hq Z;split at u<;>try cases u
  rename_i hc;split at u<;>try cases u
  rename_i es he;obtain⟨te,ti,q1,q2,q3,q4,q5,q6⟩:=GD hq;obtain⟨ad,ac,za,F,Y,S,z4,z5,z6⟩:=RD (ρ:=dL (D+1) G.ρ) (I:=G.I) Z;rw[q1]at F;cases F;rw[q2]at Y;cases Y;obtain⟨aah,p1,p2⟩:=Vv h.tmp h.jD hl;have J:=FQ z6 hc.2;have ab:=akF (I:=G.I) (sz:=sz) J FZ m;obtain⟨cells,f1,f2,f3⟩:=anO p2 ab he;rw[mw]at f3;have ao:=yP f2;refine⟨.slice H.ae 0 m X,alloc H cells V sz,DQ G H cells V sz ((kB n dst).map λ i=>.tmp D i 0) (zf D (kB n dst)),?_,⟨h.cA.Bh λ _ _ _=>rfl,?_,h.gX,h.jD.mono (Bo h.cA _ _ _ _ _)⟩,dF.Bh h.cA XX⟩;.simp only[wM,p1,oW,q1,q2,S,q3];grind[abN,hP,sy,yu]
  have hI:(DQ G H cells V sz ((kB n dst).map λ i=>.tmp D i 0) (zf D (kB n dst))).I H.ae=O (newRow H cells V sz):=by show(if H.ae=H.ae then _ else _)=_;rw[aY Q]
  refine h.tmp.step (src:=[]) (mQ.refl _) (Bo h.cA _ _ _ _ _) ?_ (λ i hi j ai af c e1 e2=>?_) λ i j ai af c _ hd ho=>ho.Bh h.cA ?_
  .show RP _ (.sl es X) _;simp only[RP];refine .inr ⟨H.ae,0,X,newRow H cells V sz,sz,by rw[f3],hI,.inr ⟨Q,Q⟩,?_,?_⟩;.simp only[newRow];omega
   simp only[newRow,gU];rw[mT aa];exact Ap (Bo h.cA _ _ _ _ _) _ _ _ f2
  .cases j
   .simp[au.cells]at e2;obtain⟨rfl,rfl⟩:=e1;subst e2;refine .inr ⟨H.ae,0,newRow H cells V sz,by rw[f3],hI,Q,q6,Q,?_,?_,?_⟩;.simp only[newRow];omega
    .show(if H.ae=H.ae then _ else _)=_;rw[aY Q,hi];rfl
    show(if H.ae=H.ae then _ else _)=_;rw[aY Q];simp[newRow]
   rename_i j;simp[ak.cells]at e1
  grind[zf]
 .rename_i t l c;split at u
  .rename_i k m m' sz al z hl hm hq Z;split at u
   .rename_i hc;obtain⟨rfl,ah,ap,ag,am⟩:=hc;split at u<;>try cases u
    rename_i s N;obtain⟨te,ti,q1,q2,q3,q4,q5,q6⟩:=GD hq;obtain⟨ad,ac,za,F,Y,S,z4,z5,z6⟩:=RD (ρ:=dL (D+1) G.ρ) (I:=G.I) Z;rw[q1]at F;cases F;rw[q2]at Y;cases Y;obtain⟨a1,h1,h2,_⟩:=jk h.tmp h.jD hl;obtain⟨a2,h3,h4,_⟩:=jk h.tmp h.jD hm;obtain⟨rfl,_⟩:=h2;obtain⟨rfl,_⟩:=h4;have J:=aiw (I:=G.I) (FQ z6 ag) m
    obtain⟨A,M,K⟩:=NZ (n:=n) (dst:=O k) (src:=[]) h N (Gq J) (λ j es z' c e1 e2=>by
     exfalso;have an:=iD e1;grind[List.mem_flatten,aby]) (v:=.ms st.up.length k m sz) (λ y e=>by
     simp only[aJ];exact⟨H.ae,by unfold dL;rw[aY (by rw[h.gX];omega),h.gX];exact e,Q⟩) (kM aw Q)
    refine⟨_,_,A,?_,M,K.ot (λ _ _ e=>e) (λ _ e=>by show O _=O _;rw[e])⟩;simp only[wM,h1,h3,wu,q1,q2,S];have hb:m*ti.bytes<=lg:=by have:m*ti.bytes<=1073741824*1024:=UL ah aa;unfold lg;omega
    grind[abN,hP,lg,sy,yu]
   cases u
  cases u
 .cases u
end
section
variable{aah ay:au}{es:aP}{lo:R}{ah:kH}{s v y:ak}{s0:uy}{sf:nq}{ts:xC}{φ:AS}
variable{P:aA}{ng:R}{gl:bH}{G:Gh}{D:R}{T:VT}{T':aM}{st:aG}{H:aj}{ρ:Bx}{I:Im}
theorem alo:∀{mem:bG},(∀u∈mem,∀ru,ah.get u=O ru->ru.start+ru.cells.length<=lo)->tK ah lo mem=ah
 |[],_=>rfl
 |u::us,h=>by
  have A:=alo λ w y=>h w (cV _ y)
  grind[tK,hP]
theorem afe{v hi:R}:∀{mem:bG},(∀u∈mem,∀ru,ah.get u=O ru->ru.start+ru.cells.length<=lo)->oq ah v lo hi mem=ah
 |[],_=>rfl
 |u::us,h=>by
  have A:=afe (v:=v) (hi:=hi) λ w y=>h w (cV _ y)
  grind[oq,hP]
structure HEq (H H':aj):Prop where
 ah:∀u,H'.ah.get u=H.ah.get u
 aV:∀f,H'.aV.get f=H.aV.get f
 ae:H'.ae=H.ae
def cH.heq{A:aj}(h:cH G st H)(e:HEq H A):cH G st A where
 gd:=⟨λ u r k=>by rw[e.ah]at k;exact e.ae▸h.wf u r k,λ f mem u r a b c=>by
  rw[e.aV]at a;rw[e.ah]at c;exact h.gd.aI f mem u r a b c,λ f mem a=>by
  rw[e.aV]at a;exact e.ae▸h.gd.mem f mem a⟩
 gI:=λ u r k=>by rw[e.ah];exact h.gI u r k
 box:=λ d k D g=>by obtain⟨u,r,b⟩:=h.box d k D g;exact⟨u,r,{b with row:=by rw[e.ah];exact b.row,mem:=by rw[e.aV];exact b.mem}⟩
 inj:=h.inj
 oT:=λ d k u k'=>e.ae▸h.oT d k u k'
 aI:=λ f s k=>by obtain⟨h1,mem,h2,y⟩:=h.aI f s k;exact⟨e.ae▸h1,mem,by rw[e.aV];exact h2,λ u hu=>⟨e.ae▸(y u hu).1,λ ru q=>by rw[e.ah]at q;exact(y u hu).2 ru q⟩⟩
def Ig(G:Gh)(H:aj)(f:R)(row:Row)(s:uy)(φ:AS):Gh where
 ρ:=G.ρ
 I:=λ u=>if u=H.ae then O row else G.I u
 own:=λ y=>if y=f then s else(G.own y).bind φ
 tp:=λ y=>if y=f then row.start+row.cells.length else G.tp y
def vG(H:aj)(f:R)(row:Row)(mem:bG):aj:={ah:=H.ah.set H.ae (O row),aV:=H.aV.set f (O (H.ae::mem)),ae:=H.ae+1}
theorem GQ{f:R}{row:Row}{mem:bG}:(vG H f row mem).ah.get u=if u=H.ae then O row else H.ah.get u:=by show(H.ah.set _ _).get u=_;grind[Tr.jg]
theorem M4{f:R}{row:Row}{mem:bG}:(vG H f row mem).aV.get u=if u=f then O (H.ae::mem)else H.aV.get u:=by show(H.aV.set f _).get u=_;grind[Tr.jg]
def Jx(h:cH G st H)(f:R)(row:Row)(s:uy)(φ:AS):bO G.I (Ig G H f row s φ).I:=λ u r e=>by show(if u=H.ae then _ else G.I u)=O r;rw[aR (by have:=(h.lt e).1;omega)];exact e
def lJ.vG(h:cH G st H){f:R}{row:Row}{s y:nq}(N:G.own f=O sf)(A:s≠sf)(k:lJ G s es sz a)(e:φ s=O y):lJ (Ig G H f row s0 φ) y es sz a:=by
 rcases k with k|⟨v,off,r,h1,h2,M,K,h5,J,F,D⟩
 .exact .inl k
 have u:r.aI≠f:=λ e=>bP
 refine .inr ⟨v,off,r,h1,Jx h _ _ _ _ v r h2,M,K,h5,J,?_,?_⟩;.show(if r.aI=f then s0 else(G.own _).bind φ)=O y;rw[aR u,F];exact e
 show(if r.aI=f then _ else G.tp _)=_;rw[aR u];exact D
theorem cH.vG(h:cH G st H){f:R}{row:Row}{mem:bG}(N:G.own f=O sf)(M:∀d k j,sf≠.box d k j)(hm:H.aV.get f=O mem)(F:row.aI=f)(Y:G.tp f<=row.start+row.cells.length)
 (K:∀d k j,φ (.box d k j)=O (.box d k j)):cH (Ig G H f row s0 φ) st (Abs.vG H f row mem)where
 gd:=by
  refine⟨λ u r e=>?_,λ A y u r a b c=>?_,λ A y a=>?_⟩
  .show u<H.ae+1/\r.aI<H.ae+1;rw[GQ]at e;split at e;.cases e;have:=(h.aI f sf N).1;omega
   have:=h.wf u r e;omega
  .rw[M4]at a;rw[GQ]at c;split at a
   .rename_i Z;cases a;rw[Z];split at c;.cases c;exact F
    rename_i hu;rcases cg.1 b with rfl|b
    .exact(hu Q).elim
    exact h.gd.aI f mem u r hm b c
   have hu:=(h.gd.mem A y a).2 u b;rw[aR aa]at c;exact h.gd.aI A y u r a b c
  rw[M4]at a;show A<H.ae+1/\∀u∈y,u<H.ae+1;split at a;.obtain⟨S⟩:=h.gd.mem f mem hm;grind
  obtain⟨S⟩:=h.gd.mem A y a;grind
 gI:=λ u r e=>by
  have e:(if u=H.ae then O row else G.I u)=O r:=e;rw[GQ];split at e;.grind
  rename_i hu;rw[aR hu];exact h.gI u r e
 box:=λ d k cs e=>by
  obtain⟨u,r,b⟩:=h.box d k cs e;have hu:=Av.lt h b;have D:u≠f:=λ e=>by have:=b.un;grind
  refine⟨u,r,{ref:=b.ref,row:=?_,rw:=b.rw,sz:=b.sz,aI:=b.aI,mem:=?_,im:=?_,un:=?_,cells:=An (mQ.refl _) (Jx h _ _ _ _) _ _ b.cells,cell:=b.cell,own:=λ j es sz a e1 e2=>(b.own j es sz a e1 e2).vG h N (λ e=>M _ _ _ e.symm) (K _ _ _)}⟩;.rw[GQ,aR aa];exact b.row
  .rw[M4,aR D];exact b.mem
  .show(if u=H.ae then _ else G.I u)=X;rw[aR aa];exact b.im
  show(if u=f then s0 else(G.own u).bind φ)=X;rw[aR D,b.un];rfl
 inj:=h.inj
 oT:=λ d k u e=>jc (h.oT d k u e)
 aI:=λ A s e=>by
  have e:(if A=f then s0 else(G.own A).bind φ)=O s:=e;show A<H.ae+1/\∃m,(Abs.vG H f row mem).aV.get A=O m/\∀u∈m,u<H.ae+1/\∀ru,(Abs.vG H f row mem).ah.get u=O ru->ru.start+ru.cells.length<=(if A=f then row.start+row.cells.length else G.tp A);rw[M4];split at e;.obtain⟨h1⟩:=h.aI _ sf N;grind[GQ]
  rename_i J;obtain⟨h1,m,h2,P⟩:=h.aI.ig A s e;refine⟨aa,m,(aR J)▸h2,λ u hu=>⟨by have:=(P u hu).1;omega,λ ru e=>?_⟩⟩;rw[GQ,aR (by have:=(P u hu).1;omega)]at e;exact(aR J)▸(P u hu).2 ru e
theorem dF.vG(h:cH G st H){f:R}{row:Row}{mem:bG}(M:G.own f=O sf)(F:¬wS D sf)(A:∀s,wS D s->φ s=O s):dF D G st H (Ig G H f row s0 φ) st (Abs.vG H f row mem) tch rZ where
 im:=Jx h _ _ _ _
 py:=λ _ _ _=>rfl
 qB:=λ _ _=>rfl
 live:=λ d k u e e2 _=>⟨e,e2⟩
 ae:=mS _
 rows:=λ u hu=>.inl (by rw[GQ,aR (by omega)])
 qR:=λ y s K e=>by
  refine⟨?_,?_⟩;.show(if y=f then s0 else(G.own y).bind φ)=O s;grind
  show(if y=f then _ else G.tp y)=_;rw[aR (λ N=>bP)]
 sM:=rfl
 qq:=λ u r e hu=>by have e:(if u=H.ae then O row else G.I u)=O r:=e;grind
 qf:=λ y s e J=>by
  have e:(if y=f then s0 else(G.own y).bind φ)=O s:=e;split at e;.grind
  exact Ei e
 aV:=λ y _ e=>by grind[M4]
theorem ax8(h:cH G st H){x:ak}{new:aP}(hx:aJ (dL (D+1) G.ρ) G.I x a)(F:DU st x=O new)(hs:km sz new=V):∃cs,lenOf a=O new.length/\er H.ah.get sz new.length a=O cs/\cx G.I sz new cs:=by
 unfold DU at F;split at F
 .cases F;rcases hx with⟨rfl,rfl|rfl⟩|⟨u,off,lim,r,y,rfl,k1,k2,k3,k4⟩
  .exact⟨[],Q,Q,by simp[cx]⟩
  .exact⟨[],Q,Q,by simp[cx]⟩
  have hr:=h.gI u r k1;cases new;.refine⟨[],Q,?_,by simp[cx]⟩;rw[er,tP,aQ];grind[hP]
  rename_i e es;have J:y=sz:=by grind[VG]
  subst J;refine⟨_,Q,?_,k4⟩;grind[er,aQ,hP]
 .rename_i d k len y;split at F<;>try cases F
  rename_i cs aa;split at F<;>cases F;rename_i hd Z;obtain⟨u,hu,rfl⟩:=hx;have ac:=KH _ _ _ _ _ hu;obtain⟨u2,r,M⟩:=h.box d k cs aa;have:u2=u:=by have:=M.ref;grind
  subst this;have Z:=by simpa using Z
  have ad:=sQ M.cells
  have P:∀(n) (A) (bs),dq G.I A bs->A.length=n*y->cx G.I y (qx y n A) bs:=by
   intro n;induction n with
   |zero=>
    intro A bs N K;have Y:=mF (by simpa using K);subst Y;rw[xp.1 N];simp[qx,cx]
   |succ n S=>
    intro A bs N K;rw[Hf]at K;refine qa.2 ⟨FC,aiD _ N,S _ _ (agS _ N) (by rw[UM];omega)⟩
  have hk:=P len _ _ (FQ M.cells hd) (by simpa using Z.symm)
  have ab:(qx y len (cs.map eZ)).length=len:=by
   have:∀(n) (A),(qx y n A).length=n:=by
    intro n;induction n with
    |zero=>intro A;rfl
    |succ n S=>simp[qx,S]
   exact this _ _
  rw[ab];cases len;.refine⟨[],Q,?_,by simp[qx,cx]⟩;rw[er,aQ,M.row];grind[hP]
  rename_i n;have J:y=sz:=by grind[VG]
  subst J;refine⟨r.cells,Q,?_,hk⟩;rw[er,aQ,M.row];grind[hP]
 cases F
theorem aIc{bs:aF}(h:cx I sz es bs)(y:0<sz)(u:es≠[]):bs≠[]:=by
 intro e;have:=yP h;cases es;.exact u Q
 rename_i a es;grind[akW]
theorem MW:∀{es:aP} {bs:aF},cx I sz es bs->bs.all au.dm=V
 |[],_,h=>by rw[C8.1 h];rfl
 |e::es,bs,h=>by obtain⟨h1,h2,u⟩:=qa.1 h;have a:=S8 (Gq (ρ:=λ _ _=>X) h2) (Io h2).2.2;have b:=MW u;grind[ahy]
theorem mE(h:p:=by unfold lg;omega):p:=h
theorem aBc(h:Ok ng gl D G T T' st H){n:R}{dst:fV}{x:eN}{v:ak}(hs:aJ (dL (D+1) G.ρ) G.I s aah)(ho:vr G D x s.cells aah.cells)(hy:aJ (dL (D+1) G.ρ) G.I y ay)
 (hv:FW P st ts s y=O v):∃a H' N,iC P H ts [aah,ay]=O (a,H')/\Ok ng gl D N (fk n (kI (mz x) T) dst v) (dZ n T' dst a) st H'/\dF D G st H N st H' (kJ .clean) rZ:=by
 unfold FW at hv;split at hv<;>try cases hv
 rename_i t u es z;split at hv<;>try cases hv
 rename_i sz af zc hq hz hu;split at hv<;>try cases hv
 rename_i new an;split at hv<;>try cases hv
 rename_i hc;obtain⟨c1,c2,c3,c4⟩:=hc;obtain⟨te,ti,q1,q2,q3,q4,q5,q6⟩:=GD hq;obtain⟨aS,aR,za,z1,z2,z3,z4,z5,z6⟩:=RD (ρ:=dL (D+1) G.ρ) (I:=G.I) hz;rw[q1]at z1;cases z1;rw[q2]at z2;cases z2;obtain⟨nc,n1,n2,n3⟩:=ax8 h.cA hy an c4;have aO:=yP n3;unfold wP at hu;split at hu
 .rename_i ue aU;have a0:gr za.cells.length sz=true:=by grind[abN]
  have aT:gr sz 0=false:=by rw[<-q3];exact q5
  have hB:iC P H [t,u] [aah,ay]=gM H sz af aah new.length nc:=by grind[iC]
  rw[hB];have aK:(es.length+new.length)*af<=lg:=by have:(es.length+new.length)*af<=1073741824*1024:=UL c3 c2;unfold lg;omega
  have aH:es.length+new.length<=lg:=mE
  have Z:(es=[]/\aah=.aq)\/∃t',x=.tmp t'/\lJ G (.tmp D t' 0) es z aah:=by
   have al:aah.cells[0]? =O aah:=by have Y:RP G.I (.sl es X) aah:=hs;simp only[RP]at Y;rcases Y with⟨_,rfl|rfl⟩|⟨_,_,_,_,_,rfl,_⟩<;>rfl
   exact ho 0 es z aah Q al
  have fresh:∀(A:aF) (ex:mi),cx G.I sz es A->new≠[]->∃N,Ok ng gl D N (fk n (kI (mz x) T) dst (.sl (es++new) (O sz))) (dZ n T' dst (.slice H.ae 0 (es.length+new.length) X)) st (alloc H (A++nc) ex sz)/\dF D G st H N st (alloc H (A++nc) ex sz) (kJ .clean) rZ:=by
   intro A ex F az;have J:=M1 F n3;have ad:=yP J;rw[kQ]at ad;have hI:(DQ G H (A++nc) ex sz ((kB n dst).map λ i=>.tmp D i 0) (zf D (kB n dst))).I H.ae=O (newRow H (A++nc) ex sz):=by show(if H.ae=H.ae then _ else _)=_;rw[aY Q]
   refine⟨DQ G H (A++nc) ex sz ((kB n dst).map λ i=>.tmp D i 0) (zf D (kB n dst)),⟨h.cA.Bh λ _ _ _=>rfl,?_,h.gX,h.jD.mono (Bo h.cA _ _ _ _ _)⟩,dF.Bh h.cA XX⟩;refine h.tmp.step (mQ.refl _) (Bo h.cA _ _ _ _ _) ?_ (λ i hi j S K c e1 e2=>?_) λ i j S K c _ hd ho=>ho.Bh h.cA ?_
   .show RP _ (.sl (es++new) X) _;simp only[RP];refine .inr ⟨H.ae,0,X,newRow H (A++nc) ex sz,sz,by rw[kQ],hI,.inr ⟨Q,Q⟩,?_,?_⟩;.grind[newRow]
    simp only[newRow,gU];rw[mT (by rw[kQ];omega)];exact Ap (Bo h.cA _ _ _ _ _) _ _ _ J
   .cases j
    .simp[ak.cells]at e1;simp[au.cells]at e2;obtain⟨rfl,rfl⟩:=e1;subst e2;refine .inr ⟨H.ae,0,newRow H (A++nc) ex sz,by rw[kQ],hI,Q,q6,Q,?_,?_,?_⟩;.grind[newRow]
     .show(if H.ae=H.ae then _ else _)=_;rw[aY Q,hi];rfl
     show(if H.ae=H.ae then _ else _)=_;rw[aY Q];simp[newRow]
    rename_i j;simp[ak.cells]at e1
   grind[zf]
  rcases Z with⟨rfl,rfl⟩|⟨t',rfl,Z⟩
  ·
   cases new
   .obtain⟨N,M,g2⟩:=stepT (n:=n) (dst:=dst) h (src:=mz x) (v:=.sl [] (O sz)) (a:=.aq) ⟨by simp[aJ,RP],λ _ _=>X,λ j S K c e1 e2=>by grind[ak.cells,au.cells]⟩
    exact⟨.aq,H,N,by simp[gM,lenOf,jy],M,g2⟩
   rename_i e new;obtain⟨N,M,g2⟩:=fresh [] false (by simp[cx]) aw;grind[gM,lenOf,jy,th,er,hP]
  rcases Z with⟨rfl,rfl⟩|⟨w,off,r,rfl,k1,k2,k3,k4,k5,k6,k7⟩
  .cases new
   .obtain⟨N,M,g2⟩:=stepT (n:=n) (dst:=dst) h (src:=mz (.tmp t')) (v:=.sl [] (O sz)) (a:=.aq) ⟨by simp[aJ,RP],λ _ _=>X,λ j S K c e1 e2=>by grind[ak.cells,au.cells]⟩
    exact⟨.aq,H,N,by simp[gM,lenOf,jy],M,g2⟩
   rename_i e new;obtain⟨N,M,g2⟩:=fresh [] false (by simp[cx]) aw;grind[gM,lenOf,jy,th,er,hP]
  have ap:z=sz:=bP;subst ap;have hr:=h.cA.gI w r k1;obtain⟨aX,mem,ai,aW⟩:=h.cA.aI _ _ k6;have Y:RP G.I (.sl es X) (.slice w off es.length X):=hs
  have F:cx G.I z es ((r.cells.drop off).take (es.length*z)):=by
   simp only[RP]at Y;rcases Y with⟨_,e|e⟩|⟨w',aL,aN,r',K,e,M,g2,g3,g4⟩
   .cases e
   .cases e
   injection e with e1 e2 e3 e4;subst e1 e2 e4;rw[k1]at M;cases M;rcases g2 with rfl|⟨_,g2⟩
   .simp[cx]
   grind
  have ag:jy H.ah.get z (.slice w off es.length X)=O (r.exact,es.length):=by simp only[jy,hr];grind[hP,Nat.mul_div_cancel]
  cases new
  .have aB:nc=[]:=by simpa[cx]using n3
   subst aB;have ab:∀u∈mem,∀ru,H.ah.get u=O ru->ru.start+ru.cells.length<=r.start+(off+es.length*z):=by grind
   have am:eV r.cells (off+es.length*z) []=r.cells:=by simp[eV]
   have ar:write H w (off+es.length*z) []=O {H with ah:=H.ah.set w (O r)}:=by unfold write;rw[hr];simp only[k4,ai,Oz,tP];rw[cD aa];simp only;rw[afe ab,am];rw[show(O r:oR)=O {cells:=r.cells,aI:=r.aI,start:=r.start,exact:=r.exact,ro:=false,sz:=r.sz}from by rw[<-k4]]
   have heq:HEq H {H with ah:=H.ah.set w (O r)}:=⟨λ u=>by grind[Tr.jg],λ _=>rfl,Q⟩
   obtain⟨N,M,g2⟩:=stepT (n:=n) (dst:=dst) h (src:=[t']) (v:=.sl es (O z)) (a:=.slice w off es.length X) ⟨hs,λ _ j=>O j,λ j S K c e1 e2=>by
    cases j;.simp[ak.cells]at e1;simp[au.cells]at e2;obtain⟨rfl,rfl⟩:=e1;subst e2;exact .inr ⟨t',aw,0,Q,.inr ⟨w,off,r,Q,k1,k2,k3,k4,k5,k6,k7⟩⟩
    rename_i j;simp[ak.cells]at e1⟩
   refine⟨.slice w off es.length X,{H with ah:=H.ah.set w (O r)},N,?_,⟨M.cA.heq heq,?_,M.gX,M.jD⟩,?_⟩
   rotate_left
   .rw[ou];exact M.tmp
   .exact{g2 with ae:=aZ _,rows:=λ u _=>.inl (heq.ah u),aV:=λ f _ _=>heq.aV f}
   simp only[gM,lenOf,ag,tP,sK,ard,ar]
  rename_i e new
  have aC:th (es.length+(e::new).length) es.length=false:=by
   cases hb:th (es.length+(e::new).length) es.length;.rfl
   have:=Hc hb;grind
  have av:er H.ah.get z es.length (.slice w off es.length X)=O ((r.cells.drop off).take (es.length*z)):=by grind[er,ard,aQ]
  have az:nc≠[]:=aIc n3 k3 aw;cases aE:r.exact with
  |true=>
   obtain⟨N,M,g2⟩:=fresh _ false F aw;grind[gM,lenOf,hP]
  |false=>
   have J:=M1 F n3;have ad:=yP J;rw[@kQ _ es]at ad;have ax:=yP F;have ab:∀u∈mem,∀ru,H.ah.get u=O ru->ru.start+ru.cells.length<=r.start+off+es.length*z:=by grind
   let row:Row:={cells:=(r.cells.drop off).take (es.length*z)++nc,aI:=r.aI,start:=r.start+off,exact:=false,ro:=false,sz:=z}
   have ac:row.cells.length=(es.length+(e::new).length)*z:=ad;have ao:gM H z af (.slice w off es.length X) (e::new).length nc=O (.slice H.ae 0 (es.length+(e::new).length) X,Abs.vG H r.aI row mem):=by simp only[gM,lenOf,ag,aE];rw[aC];simp only[av];rw[cD aK,cD aH];simp only[OB,hr,k4,MW n3,ai];rw[alo ab];rfl
   have aD:G.tp r.aI<=row.start+row.cells.length:=by grind
   have hI:(Ig G H r.aI row ((kB n dst).map λ i=>.tmp D i 0) (zf D (kB n dst))).I H.ae=O row:=by show(if H.ae=H.ae then _ else _)=_;rw[aY Q]
   refine⟨_,_,Ig G H r.aI row ((kB n dst).map λ i=>.tmp D i 0) (zf D (kB n dst)),ao,⟨h.cA.vG k6 aw ai Q aD λ _ _ _=>rfl,?_,h.gX,h.jD.mono (Jx h.cA _ _ _ _)⟩,dF.vG h.cA k6 (by simp[wS]) XX⟩;refine h.tmp.step (mQ.refl _) (Jx h.cA _ _ _ _) ?_ (λ i hi j S K c e1 e2=>?_) λ i j S K c hi hd ho=>ho.vG h.cA k6 ?_ ?_
   .show RP _ (.sl (es++e::new) X) _;simp only[RP];refine .inr ⟨H.ae,0,X,row,z,by rw[kQ],hI,.inr ⟨Q,Q⟩,?_,?_⟩;.rw[ac,kQ];omega
    rw[gU,mT (by rw[ac,kQ];omega)];exact Ap (Jx h.cA _ _ _ _) _ _ _ J
   .cases j
    .simp[ak.cells]at e1;simp[au.cells]at e2;obtain⟨rfl,rfl⟩:=e1;subst e2;refine .inr ⟨H.ae,0,row,by rw[kQ];rfl,hI,Q,k3,Q,?_,?_,?_⟩;.rw[ac,kQ];omega
     .show(if row.aI=r.aI then _ else _)=_;rw[aY Q,hi];rfl
     show(if row.aI=r.aI then _ else _)=_;rw[aY Q]
    rename_i j;simp[ak.cells]at e1
   .grind[mz]
   grind[zf]
 .cases hu
def aEf(h:Ok ng gl D G T T' st H){x:eN}(hs:aJ (dL (D+1) G.ρ) G.I s aah)(ho:vr G D x s.cells aah.cells)(hy:aJ (dL (D+1) G.ρ) G.I y ay)
 (A:EU P ts s y=O v):∃N,iC P H ts [aah,ay]=O (aah,H)/\Ok ng gl D N (fk n (kI (mz x) T) dst v) (dZ n T' dst aah) st H/\dF D G st H N st H (kJ .clean) rZ:=by
 unfold EU at A;split at A<;>try cases A
 rename_i t u es o k;split at A<;>try cases A
 rename_i sz af zc hq hz hu;split at A<;>cases A;rename_i F;obtain⟨te,ti,q1,q2,q3,q4,Y,q6⟩:=GD hq;obtain⟨ae,ad,za,z1,z2,z3,z4,z5⟩:=RD (ρ:=dL (D+1) G.ρ) (I:=G.I) hz;rw[q1]at z1;cases z1;rw[q2]at z2;cases z2;unfold FA at hu;split at hu<;>cases hu;rename_i ki ab;obtain⟨N,g1,g2⟩:=stepT h (vr.pr hs ho);refine⟨N,?_,g1,g2⟩;obtain⟨rfl⟩:=hy;have ac:gr za.cells.length ti.size=true:=z4▸qi _
 have Z:(match lenOf aah with|some m=>(match gr m 0,jy H.ah.get ti.size aah with|true,_=>O (aah,H)|false,O (_,c)=>(match th m c with|true=>O (aah,H)|false=>X)|_,_=>X)|none=>X)=O (aah,H):=by
  rcases hs with⟨_,rfl|rfl⟩|⟨w,off,lim,r,S,rfl,k1,J,k3,k4⟩
  .simp[lenOf]
  .simp[lenOf]
  rw[lenOf];cases es;.simp
  rename_i e es;rcases J with J|⟨rfl,J⟩
  .cases J
  have he:=(qa.1 k4).1;have M:=by unfold km at F;rw[ny,bq]at F;simpa using F.1
  have K:0<ti.size:=by
   cases hx:ti.size;.rw[hx]at Y;cases Y
   rename_i m;exact AZ _
  have h1:th off r.cells.length=true:=cD aa;have h2:th (e::es).length ((r.cells.length-off)/ti.size)=true:=by apply cD;rw[aKg K,<-(show S=ti.size by rw[<-he,M,q3])];omega
  have h3:gr (e::es).length 0=false:=rfl;simp only[h3,jy,h.cA.gI w r k1,(show r.sz=ti.size by rw[J,<-he,M,q3]),qi,h1,h2]
 unfold iC;simp[q1,ab,q2,Y,z3,ac];exact Z
end
end
end Go.Abs
