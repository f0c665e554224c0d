/- The symbolic machine. -/
import Derived.Test.YtkhnencepibcpaaGreatD
set_option linter.all false
open Bool renaming false->W,true->V
open Go.IntKind renaming wrap->H5
open Go.Op renaming intBits->avI,intDiv->ahn,shift->adx
open List renaming map->azq,map_inj_left->aus,replicate->ef
open Nat renaming beq->gr,blt->aa8,eq_of_beq_eq_true->ab4
open Option renaming none->X,some->O
open _root_ renaming Bool->mi,Inhabited->anU,Int->U,List->B,Nat->R,Option->gw,rfl->Q,trivial->sp
namespace Go.Abs
noncomputable section
open Go
variable{α β:Type}{Bqq:R->α->Prop}{a b i m n nm y:R}{d:U}{k:jT}{o:bA}{op:BinOp}{t:bj}
inductive XV where
 |sc (a:au)
 |int (k:IntKind) (x:R) (c:U)
 |bs (x:R)
 |ss (x:R)
 |sl (x:R) (own:gw R)
 |sx (es:B (B XV)) (own:gw R)
 |ptr (d k off:R)
 |rp (cs:B XV) (off:R)
 |ms (d k len sz:R)
 |fn (f:R) (cap:B XV)
 |agg (cs:B XV)
 |bp (vs:B XV)
 |un
deriving anU
abbrev dB:=B XV
abbrev sd:=B (R×XV)
abbrev kt:=gw XV
abbrev Eb:=B (R×dB)
abbrev AE:=gw dB
abbrev Wc:=B (R×R×dB)
abbrev xY:=B dB
abbrev WL:=gw (XV×mi)
structure SV where
 i:U
 b:mi
 s:jo
 l:aP
abbrev sY:=B SV
def SV.z:SV:=⟨0,W,[],[]⟩
abbrev bC:=R->SV
mutual
def ev(ρ:bC):XV->ak
 |.sc a=>.sc a
 |.int k x c=>.sc (.int k ((ρ x).i+c))
 |.bs x=>.sc (.bool (ρ x).b)
 |.ss x=>.sc (.str (ρ x).s)
 |.sl x o=>.sl (ρ x).l o
 |.sx es o=>.sl (fH ρ es) o
 |.ptr d k off=>.ptr d k off
 |.rp cs off=>.rp (aT ρ cs) off
 |.ms d k len sz=>.ms d k len sz
 |.fn f cap=>.fn f (aT ρ cap)
 |.agg cs=>.agg (aT ρ cs)
 |.bp vs=>.bp (aT ρ vs)
 |.un=>.un
def aT(ρ:bC):B XV->B ak
 |[]=>[]
 |v::l=>ev ρ v::aT ρ l
def fH(ρ:bC):B (B XV)->aP
 |[]=>[]
 |v::l=>aT ρ v::fH ρ l
end
inductive SE where
 |i (x:R) (c:U)
 |s (x:R)
abbrev wZ:=B SE
inductive ik where
 |le (a b:R) (c:U)
 |sl (x n:R) (c:U) (nm:R) (aah:B (R×U))
 |str (x:R) (set:B (B UInt8))
 |bb (x:R) (b:mi)
 |el (x i:R) (c:U) (cells:B XV)
 |sum (z a b:R) (c:U)
 |pr (k:R) (l:B SE)
deriving anU
abbrev um:=B ik
structure ym where
 k:R
 p:R
 cells:dB
 facts:um
inductive Gl where
 |f (f:ik)
 |len (x n:R) (c:U)
structure Mg where
 k:R
 anc:B Gl
 xo:ik
abbrev pU:=B Mg
structure iP where
 td:R->gw ym
 pr:R->sY->Prop
 rl:R->pU
structure FB where
 k:R
 res:XV
 post:um
structure Ct where
 ks:bG
 args:dB
 pre:um
 dec:Zk
 outs:B FB
inductive Hg where
 |t (i:R)
 |l (i:R)
 |b (k off:R)
 |bl (k off:R)
 |s (i:R)
 |sb (k off:R)
 |ul (j k off:R)
 |us (j k off:R)
structure Inv where
 k:R
 refs:B Hg
 T:sd
 Bqq:Eb
 Uqq:B (R×Eb)
 fs:B um
 m:(R×U)×(R×U)
abbrev Nw:=B (R×B (R×Inv))
abbrev XT:=sd
abbrev oC:=Eb
abbrev mL:=B oC
structure XS where
 w:mi
 cur:oC
 up:mL
deriving anU
structure XK where
 ls:GH
 fs:um
 nx:R
deriving anU
abbrev aa6:=B (XV×XK)
abbrev xw:=B (mi×XK)
abbrev rz:=gw aa6
abbrev DR:=gw (XV×XK)
abbrev Y5:=bC->XK->Prop
structure AH where
 v:XV
 src:lC
 s:XS
 e:rV
 k:XK
abbrev Ja:=R->dB->XS->XK->gw (B AH)
abbrev wI:=gw (B AH)
abbrev xh:=B AH
abbrev M5:=bC->AH->Prop
structure XA where
 T:XT
 s:XS
 k:XK
deriving anU
abbrev zy:=B (oP×XA)
abbrev MI:=B (iq×XA)
structure Sm where
 ks:R
 args:B kt
 boxes:Wc
 pre:um
 outs:B FB
structure fS where
 fn:R->gw lU
 ct:R->R->gw Ct
 tb:iP
 inv:R->R->gw Inv
 ok:R->mi
 st:R->mi
 self:acw
 sm:R->R->gw Sm
 eq:R->R->mi
def XV.ji:XV->mi
 |.bp _=>V
 |.un=>V
 |_=>W
def XV.cells:XV->dB
 |.agg u=>u
 |v=>[v]
def XV.cell:XV->mi
 |.agg _=>W
 |.bp _=>W
 |.un=>W
 |_=>V
def XV.data:XV->mi
 |.sc _=>V
 |.int _ _ _=>V
 |.bs _=>V
 |.ss _=>V
 |.sl _ _=>V
 |.sx _ _=>V
 |_=>W
def uv:XV->XV
 |.sl x _=>.sl x X
 |.sx es _=>.sx es X
 |v=>v
def qK:XV->XV
 |.sl x _=>.sl x X
 |.sx es _=>.sx es X
 |.agg u=>.agg (u.map uv)
 |v=>v
def vB(T:XT)(i:R):XV:=match lk T i with|O v=>v|X=>.bp []
def IQ(F:oC)(k:R)(u:dB):oC:=F.map λ p=>if p.1=k then(k,u)else p
def DC:mL->R->R->AE
 |[],_,_=>X
 |F::S,d,k=>if d=S.length then lk F k else DC S d k
def NP:mL->R->R->dB->mL
 |[],_,_,_=>[]
 |F::S,d,k,u=>if d=S.length then IQ F k u::S else F::NP S d k u
def Br(s:XS)(d k:R):AE:=if d=s.up.length then lk s.cur k else DC s.up d k
def Vp(s:XS)(d k:R)(cs:dB):XS:=if d=s.up.length then{s with cur:=IQ s.cur k cs}else{s with w:=V,up:=NP s.up d k cs}
def YG(s:XS)(d k:R)(cs:dB):XS:=if d=s.up.length then{s with cur:=IQ s.cur k cs}else{s with up:=NP s.up d k cs}
mutual
def WG(d k:R):XV->mi
 |.ptr d' k' _=> !(k'==k&&d'==d)
 |.ms d' k' _ _=> !(k'==k&&d'==d)
 |.fn _ cs=>Bp d k cs
 |.agg cs=>Bp d k cs
 |.bp cs=>Bp d k cs
 |_=>V
def Bp(d k:R):B XV->mi
 |[]=>V
 |v::vs=>WG d k v&&Bp d k vs
end
def JN(d k:R):XT->mi
 |[]=>V
 |(_,v)::T=>WG d k v&&JN d k T
def JQ(d k:R):oC->mi
 |[]=>V
 |(_,u)::F=>Bp d k u&&JQ d k F
def JO(T:XT)(s:XS)(k:R)(u:dB):gw XS:=
 match JN s.up.length k T&&JQ s.up.length k (np k s.cur)&&Bp s.up.length k u&&u.all XV.cell with
 |V=>O {s with cur:=(k,u)::np k s.cur}
 |W=>X
def L4(u:dB)(off:R)(new:dB):dB:=u.take off++new++u.drop (off+new.length)
def O5(u:dB)(off n:R):AE:=if off+n<=u.length then O ((u.drop off).take n)else X
def Lf(u:yg)(cells:dB):sd->AE
 |[]=>O cells
 |(i,v)::y=>
  match u[i]?with
  |X=>X
  |O (off,size)=>
   match v.ji,v.cells.length==size,decide (off+size<=cells.length)with
   |W,V,V=>Lf u (L4 cells off v.cells) y
   |_,_,_=>X
def QT(sz:R)(es:xY):sd->gw xY
 |[]=>O es
 |(i,v)::u=>
  match v.cells.all XV.data,v.cells.length==sz,decide (i<es.length)with
  |V,V,V=>QT sz (es.set i (v.cells.map uv)) u
  |_,_,_=>X
def GM:lC->XT->XT
 |[],T=>T
 |t::l,T=>GM l (match lk T t with|O v=>(t,qK v)::T|X=>T)
def tC(n:R)(T:XT)(d:fV)(v:XV):XT:=
 match d with
 |X=>T
 |O d=>if d<n then(d,v)::T else T
def U4(sz:R):XV->kt
 |.sx [] (O 0)=>O (.sx [] (O sz))
 |.sl _ (O 0)=>X
 |v=>O v
def KG:ak->kt
 |.sc (.int k n)=>O (.int k 0 n)
 |.sc a=>O (.sc a)
 |.sl [] o=>O (.sx [] o)
 |.fn f []=>O (.fn f [])
 |_=>X
def yy:be->AE
 |[]=>O []
 |v::l=>match KG v,yy l with|O a,O r=>O (a::r)|_,_=>X
def xv:ak->kt
 |.agg u=>match yy u with|O l=>O (.agg l)|X=>X
 |v=>KG v
def iI(T:XT):eK->kt
 |.t i=>O (vB T i)
 |.i n=>O (.int .i64 0 n)
 |.b x=>O (.sc (.bool x))
 |.v x=>xv x
 |.g _=>X
 |.f f=>O (.fn f [])
def ER(T:XT):wH->AE
 |[]=>O []
 |x::l=>match iI T x,ER T l with|O a,O r=>O (a::r)|_,_=>X
def De(T:XT):xB->gw sd
 |[]=>O []
 |(i,x)::l=>match iI T x,De T l with|O a,O r=>O ((i,a)::r)|_,_=>X
def Jv(T:XT):Eh->gw kt
 |X=>O X
 |O x=>match iI T x with|O a=>O (O a)|X=>X
def wB(a:U):Bool:=match a with|.ofNat _=>V|.negSucc _=>W
def LO(ls:GH):R->R->U->mi
 |0,b,c=>gr b 0&&wB c
 |m+1,b,c=>match gr b 0 with
  |V=>wB c
  |W=>ls.any λ f=>gr f.2.1 b&&(match gr f.1 0 with|V=>wB (c-f.2.2)|W=>LO ls m f.1 (c-f.2.2))
def JC(ls:GH):R->R->R->U->mi
 |0,a,b,c=>gr a b&&wB c
 |m+1,a,b,c=>(gr a b&&wB c)||(match gr a 0 with
  |V=>LO ls (m+1) b c
  |W=>ls.any λ f=>gr f.1 a&&JC ls m f.2.1 b (c-f.2.2))
def aIY:Nat:=3
def XK.le(K:XK)(a:R)(c:U)(b:R)(d:U):Bool:=JC K.ls aIY a b (d-c)
def XK.add(K:XK)(a:R)(c:U)(b:R)(d:U):XK:={K with ls:=(a,b,d-c)::K.ls}
def MB(a b:R)(c:U):GH->mi
 |[]=>W
 |f::l=>(gr f.1 a&&(gr f.2.1 b&&wB (c-f.2.2)))||MB a b c l
def XK.fact(K:XK):ik->XK
 |.le a b c=>match MB a b c K.ls with|V=>K|W=>{K with ls:=(a,b,c)::K.ls}
 |f=>{K with fs:=f::K.fs}
def XK.facts(K:XK):um->XK
 |[]=>K
 |f::l=>(K.fact f).facts l
def XK.new(K:XK):XK:={K with nx:=K.nx+1}
def D0(K:XK)(a:R)(c:U)(b:R)(d:U):xw:=
 if K.le a (c+1) b d then[(V,K)]else
 if K.le b d a c then[(W,K)]else
 [(V,K.add a (c+1) b d),(W,K.add b d a c)]
def PB(K:XK)(a:R)(c:U)(b:R)(d:U):xw:=
 if K.le a (c+1) b d then[(W,K)]else
 if K.le b (d+1) a c then[(W,K)]else
 let l:=K.le a c b d
 let g:=K.le b d a c
 if l&&g then[(V,K)]else
 let u:=(K.add a c b d).add b d a c
 if l then[(V,u),(W,K.add a (c+1) b d)]else
 if g then[(V,u),(W,K.add b (d+1) a c)]else
 [(V,u),(W,K)]
def D8(l:xw):xw:=l.map λ p=>(!p.1,p.2)
def bL(l:xw):aa6:=l.map λ p=>(.sc (.bool p.1),p.2)
def ub(K:XK)(x:R):Ay:=if gr x 0 then O 0 else K.ls.foldl (λ r f=>match gr f.1 x&&gr f.2.1 0 with|V=>(match r with|O c=>O (min c f.2.2)|X=>O f.2.2)|W=>r) X
def lb(K:XK)(x:R):Ay:=if gr x 0 then O 0 else K.ls.foldl (λ r f=>match gr f.1 0&&gr f.2.1 x with|V=>(match r with|O c=>O (max c (-f.2.2))|X=>O (-f.2.2))|W=>r) X
def big:Int:=2305843009213693952
def II:jT->U
 |.i64=> -9223372036854775808
 |_=>0
def FY:jT->U
 |.i64=>9223372036854775807
 |.u64=>18446744073709551615
 |.u8=>255
 |_=> -1
def xD(K:XK)(o:Ay)(f:PL):XK:=match o with|O h=>K.add (f h).1 (f h).2.1 (f h).2.2.1 (f h).2.2.2|X=>K
def axc(K:XK)(z:R):acw:=K.fs.findSome? λ f=>match f with|.sum u a b c=>(match gr u z with|V=>O (a,b,c)|W=>X)|_=>X
def Yg(K:XK)(op:BinOp)(k:jT)(a:R)(c:U)(b:R)(d:U):rz:=
 match op with
 |.add=>match k with
  |.i64=>
   if K.le a c 0 big&&K.le 0 (-big) a c&&K.le b d 0 big&&K.le 0 (-big) b d then
    if gr b 0 then O [(.int k a (c+d),K)]else
    if gr a 0 then O [(.int k b (c+d),K)]else
    O [(.int k K.nx 0,XK.fact (xD (xD (xD (xD K.new (ub K b) λ h=>(K.nx,0,a,c+d+h)) (lb K b) λ h=>(a,c+d+h,K.nx,0)) (ub K a) λ h=>(K.nx,0,b,c+d+h)) (lb K a) λ h=>(b,c+d+h,K.nx,0)) (.sum K.nx a b (c+d)))]
   else X
  |_=>X
 |.sub=>match k with
  |.i64=>
   if K.le a c 0 big&&K.le 0 (-big) a c&&K.le b d 0 big&&K.le 0 (-big) b d then
    if gr b 0 then O [(.int k a (c-d),K)]else
    if gr a b then O [(.int k 0 (c-d),K)]else
    O [(.int k K.nx 0,xD (xD (xD (xD K.new (lb K b) λ h=>(K.nx,0,a,c-d-h)) (ub K b) λ h=>(a,c-d-h,K.nx,0)) (cond (K.le b d a c) (O 0) X) λ h=>(0,h,K.nx,0)) (cond (K.le b (d+1) a c) (O 1) X) λ h=>(0,h,K.nx,0))]
   else X
  |.u64=>if gr b 0&&wB d&&K.le 0 d a c&&K.le a c 0 18446744073709551615 then O [(.int k a (c-d),K)]else X
  |_=>X
 |.rem=>
  if gr a 0&&gr b 0&&wB c&&wB (d- 1)then O [(.int k 0 (c.tmod d),K)]else
  if K.le 0 0 a c&&K.le 0 1 b d then O [(.int k K.nx 0,(((K.new.add 0 0 K.nx 0).add K.nx 1 b d).add K.nx 0 a c))]
  else X
 |.quo=>
  if K.le 0 0 a c&&K.le a c 0 (FY k)&&gr b 0&&wB (d- 1)then O [(.int k K.nx 0,xD ((K.new.add 0 0 K.nx 0).add K.nx 0 a c) (ub K a) λ h=>(K.nx,0,0,(h+c)/d))]
  else X
 |.shr=>
  if gr b 0&&decide (d=1)&&decide (c=0)&&K.le 0 0 a 0&&K.le a 0 0 (FY k)then
   match axc K a with
   |O (x,y,0)=>
    if K.le x 1 y 0 then O [(.int k K.nx 0,((K.new.add x 0 K.nx 0).add K.nx 1 y 0).add K.nx 0 a 0)]
    else if K.le x 0 y 0 then O [(.int k K.nx 0,((K.new.add x 0 K.nx 0).add K.nx 0 y 0).add K.nx 0 a 0)]
    else X
   |_=>X
  else X
 |_=>X
def aA0:BinOp->bA
 |.and=>O 100
 |.or=>O 101
 |.andNot=>O 102
 |_=>X
def X9(K:XK)(op:BinOp)(k:jT)(a:R)(c:U)(b:R)(d:U):rz:=
 match aA0 op,k with
 |O id,.u64=>O [(.int .u64 K.nx 0,((K.new.add 0 0 K.nx 0).add K.nx 0 0 18446744073709551615).fact (.pr id [.i a c,.i b d,.i K.nx 0]))]
 |_,_=>Yg K op k a c b d
def abr(K:XK)(k:jT)(a:R)(c:U)(b:R)(d:U):rz:=
 match k with
 |.u64=>if K.le 0 0 b d then O [(.int .u64 K.nx 0,((K.new.add 0 0 K.nx 0).add K.nx 0 0 18446744073709551615).fact (.pr 103 [.i a c,.i b d,.i K.nx 0]))]else X
 |_=>X
def V2(K:XK)(op:BinOp)(k:jT)(a:R)(c:U)(b:R)(d:U):rz:=
 match op with
 |.lss=>O (bL (D0 K a c b d))
 |.gtr=>O (bL (D0 K b d a c))
 |.leq=>O (bL (D8 (D0 K b d a c)))
 |.geq=>O (bL (D8 (D0 K a c b d)))
 |.eql=>O (bL (PB K a c b d))
 |.neq=>O (bL (D8 (PB K a c b d)))
 |op=>X9 K op k a c b d
def aoT(K:XK)(op:BinOp):rz:=
 match op with
 |.eql=>O [(.bs K.nx,K.new)]
 |.neq=>O [(.bs K.nx,K.new)]
 |_=>X
def XV.isStr:XV->mi
 |.ss _=>V
 |.sc (.str _)=>V
 |_=>W
def IW(K:XK)(op:BinOp)(x y:XV):rz:=
 match x,y with
 |.int k a c,.int u b d=>match op with
  |.shl=>abr K k a c b d
  |op=>if k=u then V2 K op k a c b d else X
 |.sc (.str a),.sc (.str b)=>match op with
  |.eql=>O [(.sc (.bool (a==b)),K)]
  |.neq=>O [(.sc (.bool (!(a==b))),K)]
  |_=>X
 |x,y=>match x.isStr&&y.isStr with|V=>aoT K op|W=>X
def I2(K:XK)(x:R):xw:=
 match K.fs.findSome? λ f=>match f with|.bb y b=>(match gr y x with|V=>O b|W=>X)|_=>X with
 |O b=>[(b,K)]
 |X=>[(V,K.fact (.bb x V)),(W,K.fact (.bb x W))]
def RY(K:XK):XV->gw xw
 |.sc (.bool b)=>O [(b,K)]
 |.bs x=>O (I2 K x)
 |_=>X
abbrev Sub:=wZ
def Sub.num(u:Sub)(x:R):R×Int:=match u[x]?with|O (.i y d)=>(y,d)|O (.s y)=>(y,0)|X=>(0,0)
def Sub.sym(u:Sub)(x:Nat):Nat:=match u[x]?with|O (.s y)=>y|_=>0
mutual
def zh(σ:Sub):XV->XV
 |.sc a=>.sc a
 |.int k x c=>.int k (σ.num x).1 ((σ.num x).2+c)
 |.bs x=>.bs (σ.sym x)
 |.ss x=>.ss (σ.sym x)
 |.sl x o=>.sl (σ.sym x) o
 |.sx es o=>.sx (yq σ es) o
 |.ptr d k off=>.ptr d k off
 |.rp cs off=>.rp (kY σ cs) off
 |.ms d k len sz=>.ms d k len sz
 |.fn f cap=>.fn f (kY σ cap)
 |.agg cs=>.agg (kY σ cs)
 |.bp vs=>.bp (kY σ vs)
 |.un=>.un
def kY(σ:Sub):B XV->B XV
 |[]=>[]
 |v::l=>zh σ v::kY σ l
def yq(σ:Sub):B (B XV)->B (B XV)
 |[]=>[]
 |v::l=>kY σ v::yq σ l
end
def yK(u:Sub)(p:zj):R×Int:=((u.num p.1).1,(u.num p.1).2+p.2)
def ZM(u:Sub):SE->SE
 |.i x c=>.i (u.num x).1 ((u.num x).2+c)
 |.s x=>match u[x]?with|O e=>e|X=>.i 0 0
def Jn(u:Sub):ik->ik
 |.le a b c=>.le (u.num a).1 (u.num b).1 ((u.num b).2+c-(u.num a).2)
 |.sl x n c nm y=>.sl (u.sym x) (u.num n).1 ((u.num n).2+c) nm (y.map (yK u))
 |.str x set=>.str (u.sym x) set
 |.bb x b=>.bb (u.sym x) b
 |.el x i c cells=>.el (u.sym x) (u.num i).1 ((u.num i).2+c) (kY u cells)
 |.sum z a b c=>.sum (u.num z).1 (u.num a).1 (u.num b).1 ((u.num a).2+(u.num b).2+c-(u.num z).2)
 |.pr k l=>.pr k (l.map (ZM u))
def fG:R->R->Sub
 |0,_=>[]
 |m+1,i=>.s i::fG m (i+1)
def EV(C:fS)(K:XK)(nm:R)(u:rL)(i:zj):gw (dB×XK):=
 match C.tb.td nm with
 |O d=>
  if u.length=d.p then
   let y:Sub:=.i 0 0::u.map (λ p=>.i p.1 p.2)++.i i.1 i.2::fG (d.k-d.p- 2) K.nx
   O (kY y d.cells,{K with nx:=K.nx+(d.k-d.p- 2)}.facts (d.facts.map (Jn y)))
  else X
 |X=>X
def rh(K:XK)(x:R):gw (R×U×R×rL):=K.fs.findSome? λ f=>match f with|.sl y n c nm u=>(match gr y x with|V=>O (n,c,nm,u)|W=>X)|_=>X
def ZN(K:XK)(x i:R)(c:U):AE:=K.fs.findSome? λ f=>match f with|.el y j d cells=>(match gr y x&&gr j i&&decide (c=d)with|V=>O cells|W=>X)|_=>X
def strOf(K:XK)(x:R):gw qF:=K.fs.findSome? λ f=>match f with|.str y l=>(match gr y x with|V=>O l|W=>X)|_=>X
abbrev cX:=B kt
abbrev pA:=gw cX
def cX.at(E:cX)(x:R):kt:=match E[x]?with|O (O v)=>O v|_=>X
def XK.eq(K:XK)(a:R)(c:U)(b:R)(d:U):Bool:=(gr a b&&decide (c=d))||(K.le a c b d&&K.le b d a c)
def put(E:cX)(x:R)(v:XV):pA:=match E[x]?with|O X=>O (E.set x (O v))|_=>X
def Fc(E:cX)(x:R)(v:XV)(y:R):pA:=match E[x]?with
 |O X=>O (E.set x (O v))
 |O (O (.sl z _))=>if gr y z then O E else X
 |O (O (.ss z))=>if gr y z then O E else X
 |O (O (.bs z))=>if gr y z then O E else X
 |_=>X
def TH:au->au->mi
 |.bool a,.bool b=>a==b
 |.str a,.str b=>decide (a=b)
 |.fq,.fq=>V
 |.nilFunc,.nilFunc=>V
 |_,_=>W
def RL(K:XK)(p v:XV)(E:cX):pA:=
 match p,v with
 |.int k x c,.int F y d=>
  if k=F then
   match E[x]?with
   |O X=>O (E.set x (O (.int .i64 y (d-c))))
   |O (O (.int _ z e))=>if K.eq z (e+c) y d then O E else X
   |_=>X
  else X
 |.bs x,.bs y=>Fc E x (.bs y) y
 |.bs x,.sc (.bool b)=>put E x (.sc (.bool b))
 |.ss x,.ss y=>Fc E x (.ss y) y
 |.ss x,.sc (.str s)=>put E x (.sc (.str s))
 |.sl x o,.sl y u=>if o=u then Fc E x (.sl y X) y else X
 |.sl x o,.sx es u=>if o=u then put E x (.sx es X)else X
 |.sc a,.sc b=>if TH a b then O E else X
 |.sx [] o,.sx [] u=>if o=u then O E else X
 |.sx [[.int .i64 x 0]] o,.sx [[.int .i64 y d]] u=>if o=u then put E x (.int .i64 y d)else X
 |.sx [[.int .i64 x 0],[.int .i64 D 0]] o,.sx [[.int .i64 y d],[.int .i64 A J]] u=>if o=u then(match put E x (.int .i64 y d)with|O E=>put E D (.int .i64 A J)|X=>X)else X
 |.sx [[.sl x X],[.sl D X]] o,.sx [[.sl y X],[.sl A X]] u=>if o=u then(match Fc E x (.sl y X) y with|O E=>Fc E D (.sl A X) A|X=>X)else X
 |.sx [] o,.sl y u=>if o=u then(match rh K y with|O (n,c,_,_)=>if K.le n c 0 0 then O E else X|X=>X)else X
 |.fn f [],.fn g []=>if f=g then O E else X
 |.un,.un=>O E
 |_,_=>X
def BZ(K:XK):dB->dB->cX->pA
 |[],[],E=>O E
 |p::y,v::u,E=>match RL K p v E with|O E=>BZ K y u E|X=>X
 |_,_,_=>X
def Qq(K:XK)(p v:XV)(E:cX):pA:=
 match p,v with
 |.agg y,.agg u=>BZ K y u E
 |p,v=>RL K p v E
def P0(K:XK):dB->dB->cX->pA
 |[],[],E=>O E
 |p::y,v::u,E=>match Qq K p v E with|O E=>P0 K y u E|X=>X
 |_,_,_=>X
def GV(K:XK)(p v:XV)(E:cX):pA:=
 match p,v with
 |.bp y,.bp u=>P0 K y u E
 |p,v=>Qq K p v E
def RA(K:XK):dB->dB->cX->pA
 |[],[],E=>O E
 |p::y,v::u,E=>match GV K p v E with|O E=>RA K y u E|X=>X
 |_,_,_=>X
def cX.num(E:cX)(x:R)(c:U):Zk:=match E.at x with|O (.int _ y d)=>O (y,d+c)|_=>X
def cX.GC(E:cX):rL->gw rL
 |[]=>O []
 |p::l=>match E.num p.1 p.2,E.GC l with|O q,O r=>O (q::r)|_,_=>X
def OJ(K:XK):rL->rL->mi
 |[],[]=>V
 |p::l,q::r=>K.eq p.1 p.2 q.1 q.2&&OJ K l r
 |_,_=>W
def Cl(K:XK)(E:cX)(n:R)(c:U)(y:R)(d:U):pA:=
 match E[n]?with
 |O X=>O (E.set n (O (.int .i64 y (d-c))))
 |O (O (.int _ z e))=>if K.eq z (e+c) y d then O E else X
 |_=>X
def QX(K:XK)(p v:SE)(E:cX):pA:=
 match p,v with
 |.i x c,.i y d=>Cl K E x c y d
 |.i _ _,.s _=>X
 |.s x,.s y=>match E[x]?with
  |O X=>O (E.set x (O (.sl y X)))
  |O (O (.sl z _))=>if gr y z then O E else X
  |O (O (.bs z))=>if gr y z then O E else X
  |O (O (.ss z))=>if gr y z then O E else X
  |O (O (.sx [] _))=>if gr y 0 then O E else X
  |O (O (.int _ z e))=>if gr y 0&&(gr z 0&&decide (e=0))then O E else X
  |_=>X
 |.s x,.i y d=>match E[x]?with
  |O X=>O (E.set x (O (.int .i64 y d)))
  |O (O (.int _ z e))=>if K.eq z e y d then O E else X
  |_=>X
def NI(K:XK):wZ->wZ->cX->pA
 |[],[],E=>O E
 |p::y,v::u,E=>match QX K p v E with|O E=>NI K y u E|X=>X
 |_,_,_=>X
def Rh(K:XK):rL->rL->cX->pA
 |[],[],E=>O E
 |p::y,v::u,E=>match Cl K E p.1 p.2 v.1 v.2 with|O E=>Rh K y u E|X=>X
 |_,_,_=>X
def solve(K:XK):B Gl->cX->pA
 |[],E=>O E
 |p::u,E=>match p with
  |.len x n c=>match E.at x with
   |O (.sl y _)=>(match rh K y with|O (m,d,_,_)=>(match Cl K E n c m d with|O E=>solve K u E|X=>X)|X=>X)
   |_=>X
  |.f (.le a b c)=>match E.num a 0,E.num b c with
   |O (x,d),O (y,e)=>if K.le x d y e then solve K u E else X
   |_,_=>X
  |.f (.el x i c cells)=>match E.at x with
   |O (.sl y _)=>K.fs.findSome? λ f=>match f with
    |.el A j d D=>(match gr y A with
     |V=>(match Cl K E i c j d with
      |O N=>(match BZ K cells D N with|O M=>solve K u M|X=>X)
      |X=>X)
     |W=>X)
    |_=>X
   |_=>X
  |.f (.pr k l)=>K.fs.findSome? λ f=>match f with
   |.pr J F=>(match gr k J with|V=>(match NI K l F E with|O E=>solve K u E|X=>X)|W=>X)
   |_=>X
  |_=>X
def Xl(K:XK)(p f:ik)(E:cX):pA:=
 match p,f with
 |.pr k l,.pr F D=>if gr k F then NI K l D E else X
 |.sl x n c nm A,.sl y m d u bs=>if gr nm u then
  (match QX K (.s x) (.s y) E with
  |O E=>(match Cl K E n c m d with|O E=>Rh K A bs E|X=>X)
  |X=>X)else X
 |_,_=>X
def BR(tb:iP)(K:XK)(u:R)(f:ik):Bool:=
 (tb.rl u).any λ r=>match Xl K r.xo f (O (.int .i64 0 0)::ef r.k X)with
  |O E=>(solve K r.anc E).isSome
  |X=>W
def leD(tb:iP)(K:XK)(x:R)(d:U)(y:R)(e:U):Bool:=K.le x d y e||BR tb K 218 (.pr 109 [.i x d,.i y e])
def acz(E:cX):SE->gw SE
 |.i x c=>match E.num x c with|O (y,d)=>O (.i y d)|X=>X
 |.s x=>match E.at x with
  |O (.sl y _)=>O (.s y)
  |O (.bs y)=>O (.s y)
  |O (.ss y)=>O (.s y)
  |O (.int _ y d)=>O (.i y d)
  |O (.sx [] _)=>O (.s 0)
  |_=>X
def R1(E:cX):wZ->gw wZ
 |[]=>O []
 |e::l=>match acz E e,R1 E l with|O a,O r=>O (a::r)|_,_=>X
def zX(K:XK):wZ->wZ->mi
 |[],[]=>V
 |.i y d::l,.i u A::r=>K.eq y d u A&&zX K l r
 |.s y::l,.s u::r=>gr y u&&zX K l r
 |_,_=>W
def Ve(K:XK)(k:R)(l:wZ):Bool:=K.fs.any λ f=>match f with|.pr y u=>gr k y&&zX K u l|_=>W
def akE(a b:qF):Bool:=a.all λ s=>b.elem s
mutual
def QG(C:fS)(K:XK):R->ik->cX->gw cX
 |0,_,_=>X
 |m+1,f,E=>match f with
  |.le a b c=>match E.num a 0,E.num b c with
   |O (x,d),O (y,e)=>if leD C.tb K x d y e then O E else X
   |_,_=>X
  |.bb x b=>match E.at x with
   |O (.sc (.bool b'))=>if b=b' then O E else X
   |O (.bs y)=>(match I2 K y with|[(b',_)]=>if b=b' then O E else X|_=>X)
   |_=>X
  |.el x i c cells=>match E.at x,E.num i c with
   |O (.sl y _),O (j,d)=>(match ZN K y j d with|O vs=>BZ K cells vs E|X=>X)
   |_,_=>X
  |.sum _ _ _ _=>X
  |.pr k l=>match R1 E l with
   |O l'=>if Ve K k l'||BR C.tb K (2*k) (.pr k l')then O E else X
   |X=>X
  |.str x set=>match E.at x with
   |O (.sc (.str s))=>if set.elem s then O E else X
   |O (.ss y)=>(match strOf K y with|O l=>if akE l set then O E else X|X=>X)
   |_=>X
  |.sl x n c nm aah=>match E.at x with
   |O (.sl y _)=>match rh K y with
    |O (n',c',nm',as')=>match Cl K E n c n' c' with
     |O E'=>match E'.GC aah with
      |O bs=>if(gr nm nm'&&OJ K as' bs||TU C K m n' c' nm' as' nm bs)||BR C.tb K (2*nm+1) (.sl y n' c' nm bs)then O E' else X
      |X=>X
     |X=>X
    |X=>X
   |O (.sx es _)=>match Cl K E n c 0 es.length with
    |O E'=>match E'.GC aah with
     |O bs=>if elems C K m nm bs 0 es then O E' else X
     |X=>X
    |X=>X
   |_=>X
def Ac(C:fS)(K:XK):R->B ik->cX->gw cX
 |0,_,_=>X
 |m+1,l,E=>match l with
  |[]=>O E
  |f::l=>match QG C K m f E with|O E=>Ac C K m l E|X=>X
def EP(C:fS)(K:XK):R->R->B (R×U)->R×U->B XV->mi
 |0,_,_,_,_=>W
 |m+1,nm,aah,i,cells=>match C.tb.td nm with
  |O d=>if aah.length=d.p then
   (match BZ K d.cells cells (O (.int .i64 0 0)::aah.map (λ p=>O (.int .i64 p.1 p.2))++O (.int .i64 i.1 i.2)::ef (d.k-d.p- 2) X)with
   |O E=>(Ac C K m d.facts E).isSome
   |X=>W)
   else W
  |X=>W
def elems(C:fS)(K:XK):R->R->B (R×U)->R->B (B XV)->mi
 |0,_,_,_,_=>W
 |m+1,nm,aah,i,l=>match l with
  |[]=>V
  |e::l=>EP C K m nm aah (0,i) e&&elems C K m nm aah (i+1) l
def TU(C:fS)(K:XK):R->R->U->R->B (R×U)->R->B (R×U)->mi
 |0,_,_,_,_,_,_=>W
 |m+1,n',c',nm',as',nm,aah=>
  match EV C ((K.new.add 0 0 K.nx 0).add K.nx 1 n' c') nm' as' (K.nx,0)with
  |O (cells,K')=>EP C K' m nm aah (K.nx,0) cells
  |X=>W
end
def cF:Nat:=150
def Dd:BinOp->tD
 |.eql=>O V
 |.neq=>O W
 |_=>X
def ahm(tb:iP)(K:XK):XV->XV->tD
 |.int k a c,.int u b d=>if k=u then(if BR tb K 208 (.pr 104 [.i a c,.i b d])then O V else if BR tb K 210 (.pr 105 [.i a c,.i b d])then O W else X)else X
 |.ss a,.ss b=>if BR tb K 212 (.pr 106 [.s a,.s b])then O W else X
 |_,_=>X
def awX:rz->mi
 |O [(.sc _,_)]=>V
 |X=>V
 |_=>W
def ML(e:mi)(x y:XV)(K:XK):XK:=
 match e,x,y with
 |V,.int _ a c,.int _ b d=>(K.add a c b d).add b d a c
 |_,_,_=>K
def neF(b:mi)(x y:XV)(l:rz):rz:=
 match x,y,l with
 |.int k a c,.int u D A,O [p,(.sc (.bool r),K)]=>match(k==u)&&(r !=b)with
  |V=>O [p,(.sc (.bool r),K.fact (.pr 105 [.i a c,.i D A]))]
  |W=>l
 |_,_,l=>l
def Yc(C:fS)(K:XK)(op:BinOp)(x y:XV):rz:=
 match Dd op with
 |O b=>match awX (IW K op x y)with
  |W=>match ahm C.tb K x y with
   |O e=>O [(.sc (.bool (e==b)),ML e x y K)]
   |X=>neF b x y (IW K op x y)
  |V=>IW K op x y
 |X=>IW K op x y
def Se:dB->mi
 |[]=>V
 |.int .i64 _ _::l=>Se l
 |_=>W
def Yw(C:fS)(K:XK)(op:BinOp)(t:R)(x y:XV):rz:=
 match x,y with
 |.sc (.bool a),.sc (.bool b)=>match C.eq t 0,Dd op with
  |V,O w=>O [(.sc (.bool ((a==b)==w)),K)]
  |_,_=>X
 |.agg u,.agg A=>match C.eq t u.length&&gr u.length A.length&&aa8 0 u.length&&Se u&&Se A,Dd op with
  |V,O _=>O [(.bs K.nx,K.new)]
  |_,_=>X
 |x,y=>Yc C K op x y
def Du(K:XK)(u y n:R)(c:U):xY->XK
 |[e]=>(K.fact (.pr 107 [.s y,.s u])).fact (.el u n c e)
 |_=>K.fact (.pr 107 [.s y,.s u])
def alH(K:XK)(y i:R)(c:U):AE:=K.fs.findSome? λ f=>match f with
 |.el u j d cells=>match gr y u with
  |V=>(match K.le i c j d&&K.le j d i c with|V=>O cells|W=>X)
  |W=>X
 |_=>X
def OQ(C:fS)(K:XK)(sl:bA)(A:lY)(x ix:XV):rz:=
 match x,ix with
 |.sl y _,.int _ i c=>match sl,rh K y with
  |O sz,O (n,d,nm,u)=>if K.le 0 0 i c&&K.le i (c+1) n d then
   (match ZN K y i c with
   |O cells=>if cells.length=sz then O [(.rp cells 0,K)]else X
   |X=>match alH K y i c with
    |O cells=>if cells.length=sz then O [(.rp cells 0,K.fact (.el y i c cells))]else X
    |X=>match EV C K nm u (i,c)with
     |O (cells,F)=>if cells.length=sz then O [(.rp cells 0,F.fact (.el y i c cells))]else X
     |X=>X)
   else X
  |_,_=>X
 |.sx es _,.int _ i c=>match sl with
  |O sz=>if gr i 0 then(match c with
   |.ofNat j=>(match es[j]?with|O e=>if e.length=sz then O [(.rp e 0,K)]else X|X=>X)
   |_=>X)
   else if K.le 0 0 i c&&K.le i (c+1) 0 es.length&&es.all (λ e=>e.length==sz)then O (es.zipIdx.map λ p=>(.rp p.1 0,(K.add i c 0 p.2).add 0 p.2 i c))
   else X
  |X=>X
 |.ptr d k off,.int _ i c=>match A with
  |O (n,sz)=>if gr i 0 then(match c with|.ofNat j=>if j<n then O [(.ptr d k (off+j*sz),K)]else X|_=>X)else X
  |X=>X
 |.rp D off,.int _ i c=>match A with
  |O (n,sz)=>if gr i 0 then(match c with|.ofNat j=>if j<n then O [(.rp D (off+j*sz),K)]else X|_=>X)else X
  |X=>X
 |_,_=>X
def Zu:qF->R
 |[]=>0
 |s::l=>max s.length (Zu l)
def xLn(C:fS)(K:XK)(sl:mi)(t:R):XV->DR
 |.ss y=>match C.st t,strOf K y with
  |V,O l=>O (.int .i64 K.nx 0,(K.new.add 0 0 K.nx 0).add K.nx 0 0 (Zu l))
  |_,_=>X
 |.sc (.str s)=>match C.st t with|V=>O (.int .i64 0 s.length,K)|W=>X
 |.sx es _=>match sl with|V=>O (.int .i64 0 es.length,K)|W=>X
 |.sl y _=>match sl,rh K y with|V,O (n,c,_,_)=>O (.int .i64 n c,K)|_,_=>X
 |.ms _ _ n _=>match sl with|V=>O (.int .i64 0 n,K)|W=>X
 |_=>X
def maxLen:Int:=1073741824
def aaI(C:fS)(K:XK)(sz:R)(s x:XV):kt:=
 match s,x with
 |.sx es z,.int _ 0 (.ofNat 0)=>if es.all (λ e=>e.length==sz)then O (.sx es z)else X
 |.sl y z,.int _ 0 (.ofNat 0)=>
  match rh K y with
  |O (_,_,nm,_)=>match C.tb.td nm with
   |O d=>if d.cells.length=sz then O (.sl y z)else X
   |X=>X
  |X=>X
 |_,_=>X
def NK(C:fS)(K:XK)(sz:R)(s x:XV):DR:=
 match s,x with
 |.sx es (O z),.sx new _=>if(z=sz\/(z=0/\es.length=0))/\es.length+new.length<=1073741824/\new.all (λ e=>e.length==sz)then O (.sx (es++new) (O sz),K)else X
 |.sx es (O z),.sl y _=>
  match rh K y with
  |O (n,c,nm,_)=>match C.tb.td nm with
   |O d=>if es.length=0/\(z=sz\/z=0)/\d.cells.length=sz/\K.le n c 0 maxLen then O (.sl y (O sz),K)else X
   |X=>X
  |X=>X
 |.sl y (O z),.sx new _=>
  match rh K y with
  |O (n,c,nm,u)=>
   if z=sz/\new.all (λ e=>e.length==sz)/\K.le n (c+new.length) 0 maxLen/\(new.zipIdx.all λ p=>EP C K cF nm u (n,c+p.2) p.1)then O (.sl K.nx (O sz),Du (K.new.fact (.sl K.nx n (c+new.length) nm u)) K.nx y n c new)
   else X
  |X=>X
 |.sl y (O z),.sl x _=>
  match rh K y,rh K x with
  |O (n,c,nm,u),O (F,D,A,J)=>
   match C.tb.td A with
   |O d=>
    if z=sz/\d.cells.length=sz then
     (match EV C ((K.new.new.add 0 0 K.nx 0).add 0 0 (K.nx+1) 0) A J (K.nx,0),ub K n,ub K F with
     |O (cells,N),O h,O M=>
      if wB (maxLen-(h+c+M+D))&&EP C N cF nm u (K.nx+1,0) cells then O (.sl (K.nx+1) (O sz),((((K.new.new.add K.nx 0 n (c+D+M)).add K.nx 0 F (c+D+h)).add n c K.nx 0).add F D K.nx 0).fact (.sl (K.nx+1) K.nx 0 nm u))
      else X
     |_,_,_=>X)
    else X
   |X=>X
  |_,_=>X
 |_,_=>X
def aiT(K:XK)(y h:R)(c:U):bA:=K.fs.findSome? λ f=>match f with
 |.pr k [.s x,.s u]=>match gr k 107&&gr y u with
  |V=>(match rh K x with|O (n,d,_,_)=>(match K.le h c n d&&K.le n d h c with|V=>O x|W=>X)|X=>X)
  |W=>X
 |_=>X
def Ss(C:fS)(K:XK)(sz y z x:R)(o:bA):DR:=
 match OQ C K (O sz) X (.sl x o) (.int .i64 0 0)with
 |O [(.rp cells 0,u)]=>NK C u sz (.sl y (O z)) (.sx [cells] o)
 |_=>X
def Qm:DR->rz
 |O r=>O [r]
 |X=>X
def aax(C:fS)(K:XK)(sz:R)(s x:XV):rz:=
 match s,x with
 |.sl y (O z),.sl x o=>match rh K x,rh K y with
  |O (n,c,_,_),O (m,d,_,_)=>match decide (z=sz)&&K.le n c 0 1&&K.le m d 0 maxLen with
   |V=>(match K.le n c 0 0,K.le 0 1 n c with
    |V,_=>O [(.sl y (O z),K)]
    |W,V=>Qm (Ss C K sz y z x o)
    |W,W=>match Ss C (K.add 0 1 n c) sz y z x o with
     |O r=>O [(.sl y (O z),K.add n c 0 0),r]
     |X=>X)
   |W=>Qm (NK C K sz (.sl y (O z)) (.sl x o))
  |_,_=>X
 |s,x=>Qm (NK C K sz s x)
def X2(C:fS)(K:XK)(sl:bA)(x:XV)(lo A:kt):DR:=
 match sl,x,lo,A with
 |O sz,.sl y _,X,O (.int _ h c)=>match rh K y with
  |O (n,d,nm,u)=>match C.tb.td nm with
   |O t=>if t.cells.length=sz/\K.le 0 0 h c/\K.le h c n d then(match aiT K y h c with
    |O x=>O (.sl x X,K)
    |X=>O (.sl K.nx X,(K.new.fact (.sl K.nx h c nm u)).fact (.pr 107 [.s K.nx,.s y])))else X
   |X=>X
  |X=>X
 |O sz,.sx es _,X,O (.int _ h c)=>if gr h 0 then(match c with
  |.ofNat j=>if j<=es.length/\es.all (λ e=>e.length==sz)then O (.sx (es.take j) X,K)else X
  |_=>X)else
  if es.length=0/\K.le 0 0 h c/\K.le h c 0 0 then O (.sx [] X,K)else X
 |_,_,_,_=>X
def xIx(C:fS)(t:R):XV->XV->kt
 |.sc (.str s),.int _ 0 (.ofNat j)=>match C.st t,s[j]?with|V,O b=>O (.int .u8 0 b.toNat)|_,_=>X
 |_,_=>X
def Qv(d:R):kt->bA
 |X=>O d
 |O (.int _ 0 (.ofNat j))=>O j
 |_=>X
def xSs(str:mi)(s:jo)(lo u:kt):kt:=
 match str,Qv 0 lo,Qv s.length u with
 |V,O l,O h=>if l<=h/\h<=s.length then O (.sc (.str ((s.drop l).take (h-l))))else X
 |_,_,_=>X
def Vg(C:fS)(K:XK)(sl:bA)(str:mi)(x:XV)(lo u:kt):DR:=
 match x with
 |.sc (.str s)=>match xSs str s lo u with|O v=>O (v,K)|X=>X
 |x=>X2 C K sl x lo u
def amE:XV->kt
 |.ptr d k off=>O (.ptr d k off)
 |.rp u off=>O (.rp u off)
 |.fn f u=>O (.fn f u)
 |_=>X
def alT(o:R):XV->kt
 |.ptr d k off=>O (.ptr d k (off+o))
 |.rp u off=>O (.rp u (off+o))
 |_=>X
def Hu(agg:mi)(n:R)(u:dB)(off:R):kt:=
 match agg with
 |V=>match O5 u off n with|O l=>O (.agg l)|X=>X
 |W=>u[off]?
def JS(tk agg:mi)(n:R)(s:XS):XV->gw (XV×lY×XS)
 |.rp u off=>match Hu agg n u off with|O v=>O (qK v,X,s)|X=>X
 |.ptr d k off=>match Br s d k with
  |O u=>match Hu agg n u off with
   |O v=>(match tk with
    |V=>O (v,O (d,k),YG s d k (L4 u off ((cond agg v.cells [v]).map uv)))
    |W=>O (qK v,O (d,k),s))
   |X=>X
  |X=>X
 |_=>X
def Zy(s:XS)(n:R)(x v:XV):gw (XS×R×R):=
 match x with
 |.ptr d k off=>
  match Br s d k with
  |O u=>
   match v.ji,v.cells.length==n,decide (off+n<=u.length),(d==s.up.length||v.cells.all XV.data)&&v.cells.all XV.cell with
   |W,V,V,V=>O (Vp s d k (L4 u off v.cells),d,k)
   |_,_,_,_=>X
  |X=>X
 |_=>X
def Ww(K:XK):XV->XV->rz
 |.int k a c,.int _ b d=>O ((D0 K b d a c).map λ p=>(match p.1 with|V=>.int k b d|W=>.int k a c,p.2))
 |_,_=>X
def ab3(K:XK):XV->XV->rz
 |.int k a c,.int _ b d=>O ((D0 K a c b d).map λ p=>(match p.1 with|V=>.int k b d|W=>.int k a c,p.2))
 |_,_=>X
def ab9(K:XK)(k:jT):XV->kt
 |.int _ a c=>if K.le 0 (II k) a c&&K.le a c 0 (FY k)then O (.int k a c)else X
 |_=>X
def YU(K:XK)(op:UnOp):XV->rz
 |.sc (.bool b)=>match op with|.not=>O [(.sc (.bool (!b)),K)]|_=>X
 |.bs x=>match op with|.not=>O ((I2 K x).map λ p=>(.sc (.bool (!p.1)),p.2))|_=>X
 |_=>X
def xEx(i:R):XV->kt
 |.bp u=>match u[i]?with|O v=>O (qK v)|X=>X
 |_=>X
def XV.open:XV->mi
 |.un=>V
 |.ptr _ _ _=>V
 |.rp _ _=>V
 |.fn _ (_::_)=>V
 |.bp _=>V
 |.agg u=>u.any λ c=> !c.data
 |_=>W
def XV.kZ:XV->mi
 |.ms _ _ _ _=>V
 |_=>W
def Ua:XV->XV
 |.sl x o=>.sl x o
 |.sx es o=>.sx es o
 |.agg u=>match u.all XV.data with|V=>.agg (u.map uv)|W=>.bp []
 |.fn f []=>.fn f []
 |.sc a=>.sc a
 |.int k x c=>.int k x c
 |.bs x=>.bs x
 |.ss x=>.ss x
 |_=>.bp []
def xL:dB->XV
 |[v]=>Ua v
 |l=>.bp (l.map λ v=>qK (Ua v))
def vX(s:XS)(T:XT):zm->AE
 |[]=>O []
 |.t t::rs=>match vX s T rs with|O l=>O (vB T t::l)|X=>X
 |.c a agg n::rs=>match JS W agg n s (vB T a),vX s T rs with|O (v,_,_),O l=>O (v::l)|_,_=>X
def DL:R->dB->XT
 |_,[]=>[]
 |i,v::l=>(i,v)::DL (i+1) l
def Tw(D k n:R)(s:XV):XV->XV
 |.ms d u len sz=>if d=D/\u=k/\len=n/\sz=1 then s else .ms d u len sz
 |v=>v
def Uw(k:R)(T:XT)(s:XS):gw (XT×XS):=
 match lk s.cur k with
 |O u=>match u.all XV.data with
  |V=>match JN s.up.length k (T.map λ p=>(p.1,Tw s.up.length k u.length (.sx (u.map λ c=>[uv c]) X) p.2))&&JQ s.up.length k (np k s.cur)with
   |V=>O (T.map λ p=>(p.1,Tw s.up.length k u.length (.sx (u.map λ c=>[uv c]) X) p.2),{s with cur:=np k s.cur})
   |W=>X
  |W=>X
 |X=>X
def Qh:bG->XT->XS->gw (XT×XS)
 |[],T,s=>O (T,s)
 |k::l,T,s=>match Uw k T s with
  |O (y,u)=>Qh l y u
  |X=>X
def JZ(s:XS):XV->XV
 |.ms d k len sz=>match Br s d k with
  |O u=>(match u.all XV.data,(len==u.length&&sz==1)with|V,V=>.sx (u.map λ c=>[uv c]) X|_,_=>.un)
  |X=>.un
 |v=>v
def yw(s:XS)(K:XK)(src:lC)(e:rV):kt->wI
 |O v=>O [⟨v,src,s,e,K⟩]
 |X=>X
def Rr(s:XS)(e:rV):DR->wI
 |O (v,K)=>O [⟨v,[],s,e,K⟩]
 |X=>X
def zZ(s:XS)(e:rV):rz->wI
 |O l=>O (l.map λ p=>⟨p.1,[],s,e,p.2⟩)
 |X=>X
def eQ:cX->R->Sub×R
 |[],nx=>([],nx)
 |O (.int _ y d)::l,nx=>let r:=eQ l nx;(.i y d::r.1,r.2)
 |O (.sl y _)::l,nx=>let r:=eQ l nx;(.s y::r.1,r.2)
 |O (.bs y)::l,nx=>let r:=eQ l nx;(.s y::r.1,r.2)
 |O (.ss y)::l,nx=>let r:=eQ l nx;(.s y::r.1,r.2)
 |_::l,nx=>let r:=eQ l (nx+1);(.s nx::r.1,r.2)
def AI(s:XS)(K:XK)(y:Sub)(nx:R)(o:FB):AH:=
 let u:=y++fG o.k nx
 ⟨zh u o.res,[],s,.eO .clean,{K with nx:=nx+o.k}.facts (o.post.map (Jn u))⟩
def amt(C:fS)(K:XK)(g:R)(r:Zk)(E:cX):Bool:=
 match C.self with
 |O (f,a,c)=>if gr f g then(match r with
  |O (x,_)=>match E.num x 0 with|O (y,d)=>K.le y (d+1) a 0&&K.le 0 c y d|X=>W
  |X=>W)else V
 |X=>V
def zJ:bG->cX->mi
 |0::ks,O (.int _ _ _)::E=>zJ ks E
 |0::ks,X::E=>zJ ks E
 |0::_,_=>W
 |_::ks,_::E=>zJ ks E
 |[],_=>V
 |_,[]=>V
def as9:ik->mi
 |.pr k _=>[121,122,123,124,131,134].elem k
 |_=>W
def SA(tb:iP)(K u:XK):Bool:=(u.ls.take (u.ls.length-K.ls.length)).any (λ f=>JC u.ls 2 f.2.1 f.1 (0-(f.2.2+1)))||(u.fs.any as9&&BR tb u 216 (.pr 108 []))
def aoq(tb:iP)(K:XK):xh->xh
 |[]=>[]
 |[a]=>[a]
 |l=>l.filter λ a=> !SA tb K a.k
def Ug(C:fS)(s:XS)(K:XK)(g:R)(ct:Ct)(args:dB):wI:=
 match RA K ct.args args (O (.int .i64 0 0)::ef ct.ks.length X)with
 |O E=>match Ac C K cF ct.pre E with
  |O E=>if zJ ct.ks (E.drop 1)&&amt C K g ct.dec E then
   (let r:=eQ E K.nx
   O (aoq C.tb K (ct.outs.map (AI s K r.1 r.2))))
   else X
  |X=>X
 |X=>X
mutual
def tc:XV->XV->mi
 |.sc a,.sc b=>TH a b
 |.int k x c,.int k' x' c'=>decide (k=k')&&gr x x'&&decide (c=c')
 |.bs x,.bs y=>gr x y
 |.ss x,.ss y=>gr x y
 |.sl x o,.sl y o'=>gr x y&&decide (o=o')
 |.sx es o,.sx es' o'=>JB es es'&&decide (o=o')
 |.ptr d k o,.ptr d' k' o'=>gr d d'&&gr k k'&&gr o o'
 |.rp cs o,.rp cs' o'=>xq cs cs'&&gr o o'
 |.ms d k o z,.ms d' k' o' z'=>gr d d'&&gr k k'&&gr o o'&&gr z z'
 |.fn f cs,.fn f' cs'=>gr f f'&&xq cs cs'
 |.agg cs,.agg cs'=>xq cs cs'
 |.bp cs,.bp cs'=>xq cs cs'
 |.un,.un=>V
 |_,_=>W
def xq:B XV->B XV->mi
 |[],[]=>V
 |v::l,w::r=>tc v w&&xq l r
 |_,_=>W
def JB:B (B XV)->B (B XV)->mi
 |[],[]=>V
 |v::l,w::r=>xq v w&&JB l r
 |_,_=>W
end
def qn{α β:Type}(f:α->gw (B β)):B α->gw (B β)
 |[]=>O []
 |a::l=>match f a,qn f l with|O x,O y=>O (x++y)|_,_=>X
def Ms(K:XK):B kt->dB->cX->pA
 |[],_,E=>O E
 |X::y,_::u,E=>Ms K y u E
 |O p::y,v::u,E=>match GV K p v E with|O E=>Ms K y u E|X=>X
 |_,_,_=>X
def SG(K:XK)(S:mL):Wc->cX->pA
 |[],E=>O E
 |(d,k,p)::l,E=>match S[S.length- 1-d]?with
  |O F=>(match lk F k with
   |O u=>(match BZ K p u E with|O E=>SG K S l E|X=>X)
   |X=>X)
  |X=>X
def EL:oC->oC->mi
 |[],[]=>V
 |(i,v)::l,(j,w)::r=>gr i j&&xq v w&&EL l r
 |_,_=>W
def Hr:mL->mL->mi
 |[],[]=>V
 |F::l,G::r=>EL F G&&Hr l r
 |_,_=>W
def agU(a b:XS):Bool:=a.w==b.w&&EL a.cur b.cur&&Hr a.up b.up
def avB:rV->mi
 |.eO .clean=>V
 |_=>W
def ao3(C:fS)(E:cX)(r:AH)(o:FB):Bool:=
 match GV r.k o.res r.v (E++ef o.k X)with
 |O u=>(Ac C r.k cF o.post u).isSome
 |X=>W
def Ro(C:fS)(sm:Sm)(s:XS)(K:XK)(args:dB)(u:xh):wI:=
 match Ms K sm.args args (O (.int .i64 0 0)::ef sm.ks X)with
 |O E=>match SG K (s.cur::s.up) sm.boxes E with
  |O E=>match Ac C K cF sm.pre E with
   |O E=>
    if E.all Option.isSome&&u.all (λ r=>agU r.s s&&avB r.e&&sm.outs.any (ao3 C E r))then
     (let r:=eQ E K.nx
     O (sm.outs.map (AI s K r.1 r.2)))
    else X
   |X=>X
  |X=>X
 |X=>X
def Al(T:XT)(s:XS)(K:XK):Hg->kt
 |.t i=>match lk T i with|O (.int _ x c)=>O (.int .i64 x c)|_=>X
 |.l i=>match lk T i with|O (.sl x _)=>(match rh K x with|O (n,c,_,_)=>O (.int .i64 n c)|X=>X)|O (.sx es _)=>O (.int .i64 0 es.length)|_=>X
 |.b k o=>match lk s.cur k with|O u=>(match u[o]?with|O (.int _ x c)=>O (.int .i64 x c)|_=>X)|X=>X
 |.bl k o=>match lk s.cur k with|O u=>(match u[o]?with|O (.sl x _)=>(match rh K x with|O (n,c,_,_)=>O (.int .i64 n c)|X=>X)|O (.sx es _)=>O (.int .i64 0 es.length)|_=>X)|X=>X
 |.s i=>match lk T i with|O (.sl x _)=>O (.sl x X)|O (.sx [] _)=>O (.sx [] X)|_=>X
 |.sb k o=>match lk s.cur k with|O u=>(match u[o]?with|O (.sl x _)=>O (.sl x X)|O (.sx [] _)=>O (.sx [] X)|_=>X)|X=>X
 |.ul j k o=>match s.up[s.up.length- 1-j]?with|O F=>(match lk F k with|O u=>(match u[o]?with|O (.sl x _)=>(match rh K x with|O (n,c,_,_)=>O (.int .i64 n c)|X=>X)|_=>X)|X=>X)|X=>X
 |.us j k o=>match s.up[s.up.length- 1-j]?with|O F=>(match lk F k with|O u=>(match u[o]?with|O (.sl x _)=>O (.sl x X)|_=>X)|X=>X)|X=>X
def TM(T:XT)(s:XS)(K:XK):B Hg->AE
 |[]=>O []
 |r::l=>match Al T s K r,TM T s K l with|O a,O b=>O (a::b)|_,_=>X
def FF(u:Sub)(ch:sd):XT->XT
 |[]=>[]
 |(i,v)::T=>(i,match lk ch i with|O p=>zh u p|X=>v)::FF u ch T
def yI(u:Sub)(ch:Eb):oC->oC
 |[]=>[]
 |(i,v)::T=>(i,match lk ch i with|O p=>kY u p|X=>v)::yI u ch T
def N8(K:XK)(ch:sd):XT->XT->cX->pA
 |[],[],E=>O E
 |(i,v)::T,(j,w)::H,E=>if gr i j then
  (match lk ch i with
  |O p=>match GV K p v E with|O E=>N8 K ch T H E|X=>X
  |X=>if tc v w then N8 K ch T H E else X)
  else X
 |_,_,_=>X
def IM(K:XK)(ch:Eb):oC->oC->cX->pA
 |[],[],E=>O E
 |(i,v)::T,(j,w)::H,E=>if gr i j then
  (match lk ch i with
  |O p=>match BZ K p v E with|O E=>IM K ch T H E|X=>X
  |X=>if xq v w then IM K ch T H E else X)
  else X
 |_,_,_=>X
def jm(o:ze)(T:XT)(s:XS):XT×XS:=
 match o with
 |O (a,b)=>(qG a T,{s with cur:=qG b s.cur})
 |X=>(T,s)
def chU(Uqq:B (R×Eb))(j:R):Eb:=match lk Uqq j with|O l=>l|X=>[]
def vU(u:Sub)(Uqq:B (R×Eb)):mL->mL
 |[]=>[]
 |F::S=>yI u (chU Uqq S.length) F::vU u Uqq S
def OZ(K:XK)(Uqq:B (R×Eb)):mL->mL->cX->pA
 |[],[],E=>O E
 |F::S,G::Rqq,E=>if gr S.length Rqq.length then(match IM K (chU Uqq S.length) F G E with|O E=>OZ K Uqq S Rqq E|X=>X)else X
 |_,_,_=>X
def abn(I:Inv)(w:mi):iu:=match I.Uqq,w with|[],w=>[w]|_,V=>[V]|_,W=>[W,V]
def yD(I:Inv)(a b:Bool):Bool:=match I.Uqq with|[]=>a==b|_=>a|| !b
def Sz(C:fS)(K:XK)(E:cX):B um->pA
 |[]=>X
 |l::ls=>match Ac C K cF l E with|O E=>O E|X=>Sz C K E ls
def QY(C:fS)(I:Inv)(refs:dB)(K:XK)(T H:XT)(s h:XS):pA:=
 if yD I s.w h.w then
  match N8 K I.T T H (O (.int .i64 0 0)::ef I.k X++refs.map O)with
  |O E=>match IM K I.Bqq s.cur h.cur E with
   |O E=>match OZ K I.Uqq s.up h.up E with
    |O E=>Sz C K E I.fs
    |X=>X
   |X=>X
  |X=>X
 else X
def aev(K:XK)(A Bqq y u:zj):Bool:=(K.le y.1 y.2 A.1 A.2&&K.le Bqq.1 (Bqq.2+1) u.1 u.2)||(K.le y.1 (y.2+1) A.1 A.2&&K.le Bqq.1 Bqq.2 u.1 u.2)
def Y1:oP->mi
 |.normal=>V
 |_=>W
def Qg(s:XS)(K:XK)(g:R)(args:dB):wI:=
 match gr g 237,args with
 |V,[.agg _,.ptr d k 0]=>match DC (s.cur::s.up) d k with
  |O u=>(match gr u.length 38,u[8]?with|V,O (XV.sx [] _)=>O [⟨.int .i64 0 0,[],s,.eO .clean,K⟩]|_,_=>X)
  |X=>X
 |_,_=>X
def aoz(C:fS)(I:Inv)(h:ze)(u:XA->gw zy)(refs:dB)(y:Sub)(F:XT)(D:XS)(K:XK)(fs:um):gw zy:=
 let J:=K.facts (fs.map (Jn y))
 let A:=yK y I.m.1
 let Bqq:=yK y I.m.2
 if J.le Bqq.1 Bqq.2 A.1 A.2 then
  match u ⟨F,D,J⟩with
  |X=>X
  |O outs=>
   if outs.all λ o=> !(Y1 o.1)||
    (match QY C I refs o.2.k (jm h o.2.T o.2.s).1 F (jm h o.2.T o.2.s).2 D with
    |O E=>match E.num I.m.1.1 I.m.1.2,E.num I.m.2.1 I.m.2.2 with
     |O N,O M=>aev o.2.k A Bqq N M
     |_,_=>W
    |X=>W)
   then O (outs.filter λ o=> !(Y1 o.1))else X
 else X
def acm(C:fS)(I:Inv)(h:ze)(u:XA->gw zy)(a:XA):gw zy:=
 let A:=(jm h a.T a.s).1
 let s0:=(jm h a.T a.s).2
 match TM A s0 a.k I.refs with
 |X=>X
 |O refs=>
  match QY C I refs a.k A A s0 s0 with
  |X=>X
  |O _=>
   let rs:=eQ (refs.map O) (a.k.nx+I.k)
   let y:Sub:=.i 0 0::fG I.k a.k.nx++rs.1
   qn (λ w=>qn (aoz C I h u refs y (FF y I.T A) {w:=w,cur:=yI y I.Bqq s0.cur,up:=vU y I.Uqq s0.up} {a.k with nx:=rs.2}) I.fs) (abn I s0.w)
def aHu:XV->mi
 |.sc _=>V
 |.int _ _ _=>V
 |.bs _=>V
 |.ss _=>V
 |_=>W
def Gw(S:mL):XV->XV
 |.ms d k len sz=>match DC S d k with
  |O u=>(match u.all XV.data,(len*sz==u.length&&sz==1)with|V,V=>.sx (u.map λ c=>[uv c]) X|_,_=>.bp [])
  |X=>.bp []
 |v=>qK v
def alL(cl:Ja)(s:XS)(K:XK)(ms:mi)(g:R)(args:dB):wI:=
 match ms&&args.any XV.open with
 |V=>X
 |W=>match cl g args s K with
  |O u=>(match ms&& !(u.all λ a=>aHu a.v)with|V=>X|W=>O u)
  |X=>X
def NX(C:fS)(cl:Ja)(T:XT)(s:XS)(K:XK)(u:fV):CO->wI
 |.mv x=>oB (iI T x) λ v=>yw s K [] .pure (O (qK v))
 |.tk sz x=>oB (iI T x) λ v=>yw s K (bU x) .pure (U4 sz v)
 |.pk c a b=>oB (iI T c) λ c=>oB (iI T a) λ a=>oB (iI T b) λ b=>oB (RY K c) λ l=>O (l.map λ p=>⟨qK (cond p.1 a b),[],s,.pure,p.2⟩)
 |.bl z F A=>oB (yy z) λ z=>oB (De T A) λ l=>oB (Lf F z (l.map λ p=>(p.1,qK p.2))) λ J=>yw s K [] .pure (O (.agg J))
 |.bt z F A=>oB (yy z) λ z=>oB (De T A) λ l=>oB (Lf F z l) λ J=>yw s K (BA A) .pure (O (.agg J))
 |.nl x=>oB (iI T x) λ v=>yw s K [] .pure (amE v)
 |.bn op t x y=>oB (iI T x) λ a=>oB (iI T y) λ b=>zZ s .pure (Yw C K op t a b)
 |.un op x=>oB (iI T x) λ v=>zZ s .pure (YU K op v)
 |.mn x y=>oB (iI T x) λ a=>oB (iI T y) λ b=>zZ s .pure (Ww K a b)
 |.mx x y=>oB (iI T x) λ a=>oB (iI T y) λ b=>zZ s .pure (ab3 K a b)
 |.cv k x=>oB (iI T x) λ v=>yw s K [] .pure (ab9 K k v)
 |.mf f cap=>oB (ER T cap) λ l=>yw s K [] .pure (O (.fn f (l.map qK)))
 |.fa o x=>oB (iI T x) λ v=>yw s K [] .pure (alT o v)
 |.ia sl N x ix=>oB (iI T x) λ a=>oB (iI T ix) λ i=>zZ s .pure (OQ C K sl N a i)
 |.ex i x=>oB (iI T x) λ v=>yw s K [] .pure (xEx i v)
 |.ln sl t x=>oB (iI T x) λ v=>Rr s .pure (xLn C K sl t v)
 |.ld tk agg n x=>oB (iI T x) λ a=>oB (JS tk agg n s a) λ r=>O [⟨r.1,[],r.2.2,.read r.2.1,K⟩]
 |.sx sl str x lo M=>oB (iI T x) λ a=>oB (Jv T lo) λ l=>oB (Jv T M) λ h=>Rr s (.read X) (Vg C K sl str a l h)
 |.al z=>oB (yy z) λ z=>oB u λ k=>oB (JO T s k z) λ D=>O [⟨.ptr s.up.length k 0,[],D,.new V,K⟩]
 |.bx tk x=>oB u λ k=>oB (iI T x) λ v=>match v.ji with
  |V=>X
  |W=>oB (JO T s k (match tk with|V=>v.cells|W=>(qK v).cells)) λ D=>O [⟨.ptr s.up.length k 0,(match tk with|V=>bU x|W=>[]),D,.new V,K⟩]
 |.bs sz z n A=>oB (yy z) λ z=>oB (De T A) λ l=>oB (QT sz (ef n z) l) λ es=>O [⟨.sx es (O sz),[],s,.new W,K⟩]
 |.mk z l c=>oB (yy z) λ z=>oB u λ k=>oB (iI T l) λ a=>oB (iI T c) λ b=>match a,b with
  |.int .i64 0 (.ofNat n),.int .i64 0 (.ofNat m)=>if n=m/\n<=1000 then oB (JO T s k (ef n z).flatten) λ D=>O [⟨.ms s.up.length k n 1,[],D,.new V,K⟩]else X
  |_,_=>X
 |.st n x v=>oB (iI T x) λ p=>oB (iI T v) λ w=>oB (Zy s n p w) λ r=>O [⟨.bp [],bU v,r.1,.eO (.box r.2.1 r.2.2),K⟩]
 |.cl f args=>oB (iI T f) λ f=>oB (ER T args) λ l=>match f with
  |.fn g cap=>alL cl s K ((l++cap).any XV.kZ) g ((l++cap).map (Gw (s.cur::s.up)))
  |_=>X
 |.LR _ _=>X
 |.ap sz x y=>oB (iI T x) λ a=>oB (iI T y) λ b=>oB (aax C K sz a (JZ s b)) λ l=>O (l.map λ r=>⟨r.1,bU x,s,.eO .clean,r.2⟩)
 |.Qr sz x y=>oB (iI T x) λ a=>oB (iI T y) λ b=>oB (aaI C K sz a b) λ v=>O [⟨v,bU x,s,.eO .clean,K⟩]
 |.ix t x i=>oB (iI T x) λ a=>oB (iI T i) λ i=>yw s K [] .pure (xIx C t a i)
def Ml(K:XK)(T:XT):JM->gw xw
 |X=>O [(V,K)]
 |O (t,want)=>match vB T t with
  |.sc (.bool b)=>O [(b==want,K)]
  |.un=>O [(W,K)]
  |.bs x=>O ((I2 K x).map λ p=>(p.1==want,p.2))
  |_=>X
def IJ(C:fS)(cl:Ja)(n:R):jh->XA->gw (B XA)
 |[],a=>O [a]
 |e::l,a=>
  match Ml a.k a.T e.g with
  |X=>X
  |O u=>qn (λ g=>match g.1 with
   |V=>match NX C cl a.T a.s g.2 e.d e.o with
    |O rs=>qn (λ r=>IJ C cl n l ⟨tC n (GM r.src a.T) e.d r.v,r.s,r.k⟩) rs
    |X=>X
   |W=>IJ C cl n l ⟨tC n a.T e.d .un,a.s,g.2⟩) u
def Le(C:fS)(cl:Ja)(n:R)(u:jQ):jh->R->iq->XA->gw MI
 |[],_,Z,a=>O [(Z,a)]
 |e::l,i,Z,a=>
  match Ml a.k a.T e.g with
  |X=>X
  |O y=>qn (λ g=>match g.1 with
   |V=>match NX C cl a.T a.s g.2 e.d e.o with
    |O rs=>qn (λ r=>match nM (u.getD i []) i Z r.e with
     |O A=>Le C cl n u l (i+1) A ⟨tC n (GM r.src a.T) e.d r.v,r.s,r.k⟩
     |X=>X) rs
    |X=>X
   |W=>Le C cl n u l (i+1) Z ⟨tC n a.T e.d .un,a.s,g.2⟩) y
def noX:R->dB->XS->XK->wI:=λ _ _ _ _=>X
def alR:CO->gw wH
 |.mv x=>O [x]
 |.nl x=>O [x]
 |.fa _ x=>O [x]
 |.ia _ _ x i=>O [x,i]
 |.ld _ _ _ x=>O [x]
 |.ln _ _ x=>O [x]
 |_=>X
def X4:XV->mi
 |.bp []=>W
 |_=>V
def U0(Uqq:XT):eK->mi
 |.t i=>X4 (vB Uqq i)
 |_=>V
def anD(es:lT):rV->rV->tD
 |.pure,.pure=>O W
 |.read _,.read X=>O V
 |.read _,.read (O b)=>match lA b 0 es.length es with|V=>O W|W=>X
 |_,_=>X
def D5(C:fS)(es:lT)(Uqq:XT)(y:XS)(K:XK)(d:fV)(o:CO)(e:rV):WL:=
 match alR (wv o)with
 |O u=>match u.all (U0 Uqq)with
  |V=>match NX C noX Uqq y K d (wv o)with
   |O [a]=>match gr a.k.nx K.nx with
    |V=>(match anD es e a.e with|O f=>O (a.v,f)|X=>X)
    |W=>X
   |_=>X
  |W=>X
 |X=>X
def XR(u:bG)(i:R)(Z:iq)(e:rV):WL->yZ
 |O (_,V)=>O Z
 |_=>nM u i Z e
def adj:WL->XV
 |O (v,_)=>v
 |X=>.bp []
def Mj(C:fS)(cl:Ja)(n:R)(u:jQ)(y:XS):jh->R->iq->XA->XT->gw MI
 |[],_,Z,a,_=>O [(Z,a)]
 |e::l,i,Z,a,Uqq=>
  match Ml a.k a.T e.g with
  |X=>X
  |O A=>qn (λ g=>match g.1 with
   |V=>match NX C cl a.T a.s g.2 e.d e.o with
    |O rs=>qn (λ r=>match D5 C Z.es Uqq y r.k e.d e.o r.e with
     |q=>match XR (u.getD i []) i Z r.e q with
      |O D=>Mj C cl n u y l (i+1) D ⟨tC n (GM r.src a.T) e.d r.v,r.s,r.k⟩ (tC n Uqq e.d (adj q))
      |X=>X) rs
    |X=>X
   |W=>Mj C cl n u y l (i+1) Z ⟨tC n a.T e.d .un,a.s,g.2⟩ (tC n Uqq e.d .un)) A
def S7(u:jQ):gw MI->gw (B XA)
 |O rs=>if rs.all λ r=>vC u r.1.es r.1.rs then O (rs.map (·.2))else X
 |X=>X
def ZD(C:fS)(cl:Ja)(n:R)(l:jh)(u:jQ)(a:XA):gw (B XA):=
 match S7 u (Le C cl n u l 0 ⟨[],[],W,W,[]⟩ a)with
 |O r=>O r
 |X=>S7 u (Mj C cl n u a.s l 0 ⟨[],[],W,W,[]⟩ a a.T)
def X5(o:ze)(l:B XA):zy:=l.map λ a=>(.normal,⟨(jm o a.T a.s).1,(jm o a.T a.s).2,a.k⟩)
def loops:CC->R
 |.seq a b=>loops a+loops b
 |.cond _ a b=>loops a+loops b
 |.block _ a=>loops a
 |.loop _ a=>loops a+1
 |_=>0
def EY(u:XS)(op:mi)(rs:zm)(o:oP×XA):wI:=
 match o.1 with
 |.exit _=>X
 |_=>match vX o.2.s o.2.T rs with
  |O l=>(match op with
   |V=>match o.2.s.up with
    |F::S=>O [⟨xL l,[],{w:=u.w||o.2.s.w,cur:=F,up:=S},.eO (rY o.2.s.w),o.2.k⟩]
    |[]=>X
   |W=>O [⟨xL l,[],u,.eO .clean,o.2.k⟩])
  |X=>X
def uA(C:fS):R->R->R->R->CC->XA->gw zy
 |0,_,_,_,_,_=>X
 |m+1,f,n,p,c,a=>
  let cl:R->dB->XS->XK->wI:=λ g args s K=>
   if C.ok g then
    match C.ct f g with
    |O ct=>Ug C s K g ct args
    |X=>match C.fn g with
     |O F=>
      let op:=args.any XV.open
      let up:=cond op (s.cur::s.up) []
      match uA C m g (args.length+(F.n-args.length)) 0 F.c ⟨DL 0 args,{w:=W,cur:=[],up:=up},K⟩with
      |O outs=>(match qn (EY s op F.r) outs with
       |O u=>(match C.sm f g with|O sm=>Ro C sm s K args u|X=>O u)
       |X=>X)
      |X=>X
     |X=>Qg s K g args
   else X
  match c with
  |.skip=>O [(.normal,a)]
  |.bh l out=>match IJ C cl n l a with|O r=>O (X5 out r)|X=>X
  |.wb ks l out=>match Qh ks a.T a.s with
   |O (J,D)=>match IJ C cl n l ⟨J,D,a.k⟩with|O r=>O (X5 out r)|X=>X
   |X=>X
  |.xQ l A out=>match ZD C cl n l A a with|O r=>O (X5 out r)|X=>X
  |.seq x y=>match uA C m f n p x a with
   |O outs=>qn (λ o=>match o.1 with
    |.normal=>uA C m f n (p+loops x) y o.2
    |_=>O [o]) outs
   |X=>X
  |.cond x y z=>match iI a.T x with
   |O v=>match RY a.k v with
    |O bs=>qn (λ b=>match b.1 with
     |V=>uA C m f n p y {a with k:=b.2}
     |W=>uA C m f n (p+loops y) z {a with k:=b.2}) bs
    |X=>X
   |X=>X
  |.block id x=>match uA C m f n p x a with
   |O outs=>O (outs.map λ o=>match o.1 with
    |.exit j=>(if j=id then .normal else .exit j,o.2)
    |e=>(e,o.2))
   |X=>X
  |.loop h x=>match C.inv f p with
   |O I=>acm C I h (λ a=>uA C m f n (p+1) x a) a
   |X=>match uA C m f n (p+1) x ⟨(jm h a.T a.s).1,(jm h a.T a.s).2,a.k⟩with
    |O outs=>qn (λ o=>match o.1 with
     |.normal=>uA C m f n p (.loop h x) o.2
     |_=>O [o]) outs
    |X=>X
  |.exit id=>O [(.exit id,a)]
  |.ret=>O [(.ret,a)]
def ve:R->bG->cX
 |_,[]=>[]
 |i,b::l=>O (match b with|0=>.int .i64 i 0|1=>.sl i X|2=>.bs i|_=>.ss i)::ve (i+1) l
def XP(C:fS)(ks:bG)(v:XV)(K:XK)(o:FB):Bool:=
 match GV K o.res v (O (.int .i64 0 0)::ve 1 ks++ef o.k X)with
 |O E=>(Ac C K cF o.post E).isSome
 |X=>W
mutual
def bdX(n:R):XV->mi
 |.int _ x _=>aa8 x n
 |.bs x=>aa8 x n
 |.ss x=>aa8 x n
 |.sl x _=>aa8 x n
 |.sx es _=>Q4 n es
 |.rp cs _=>Ao n cs
 |.fn _ cs=>Ao n cs
 |.agg cs=>Ao n cs
 |.bp cs=>Ao n cs
 |_=>V
def Ao(n:R):B XV->mi
 |[]=>V
 |v::l=>bdX n v&&Ao n l
def Q4(n:R):B (B XV)->mi
 |[]=>V
 |v::l=>Ao n v&&Q4 n l
end
def Gx(n:R):ik->mi
 |.le a b _=>aa8 a n&&aa8 b n
 |.sl x m _ _ bs=>aa8 x n&&aa8 m n&&bs.all λ p=>aa8 p.1 n
 |.str x _=>aa8 x n
 |.bb x _=>aa8 x n
 |.el x i _ cells=>aa8 x n&&aa8 i n&&Ao n cells
 |.sum z a b _=>aa8 z n&&aa8 a n&&aa8 b n
 |.pr _ l=>l.all λ e=>match e with|.i y _=>aa8 y n|.s y=>aa8 y n
def HT(ct:Ct):XK:=({ls:=[],fs:=[],nx:=ct.ks.length+1}:XK).facts ct.pre
def QP(ct:Ct):Bool:=Ao (ct.ks.length+1) ct.args&&ct.pre.all (Gx (ct.ks.length+1))&& !(ct.args.any XV.open)&&match ct.dec with|O (x,c)=>aa8 x (ct.ks.length+1)&&(HT ct).le 0 c x 0|X=>V
def keeps(C:fS)(m f:R)(F:lU)(ct:Ct):Bool:=
 QP ct&&match uA {C with self:=match ct.dec with|O (x,c)=>O (f,x,c)|X=>X} m f (ct.args.length+(F.n-ct.args.length)) 0 F.c ⟨DL 0 ct.args,{w:=W,cur:=[],up:=[]},HT ct⟩with
 |O outs=>(match qn (EY {w:=W,cur:=[],up:=[]} W F.r) outs with
  |O rs=>rs.all λ r=>ct.outs.any (XP {C with self:=match ct.dec with|O (x,c)=>O (f,x,c)|X=>X} ct.ks r.v r.k)
  |X=>W)
 |X=>W
section
variable{T:XT}{j:R}{p:β->mi}{q:α->mi}{v:XV}
variable{ρ ρ':bC}
theorem gq:∀l:dB,aT ρ l=l.map (ev ρ)
 |[]=>rfl
 |v::l=>by rw[aT,gq l];rfl
theorem qS:∀l:xY,fH ρ l=l.map (aT ρ)
 |[]=>rfl
 |v::l=>by rw[fH,qS l];rfl
def dw(ρ:bC)(T:XT):VT:=T.map λ p=>(p.1,ev ρ p.2)
def dH(ρ:bC)(F:oC):xH:=F.map λ p=>(p.1,aT ρ p.2)
def bX(ρ:bC)(s:XS):aG:=⟨s.w,dH ρ s.cur,s.up.map (dH ρ)⟩
def Sj(f:α->β)(j:R):∀T:B (R×α),lk (T.map λ p=>(p.1,f p.2)) j=(lk T j).map f
 |[]=>rfl
 |(i,v)::T=>by
  show(if i=j then O _ else lk _ j)=(if i=j then O v else lk T j).map f;by_cases h:i=j;.rw[aY h,aY h];rfl
  rw[aR h,aR h,Sj f j T]
def Py:lk (dw ρ T) j=(lk T j).map (ev ρ):=Sj _ _ _
theorem Fh{F:oC}:lk (dH ρ F) j=(lk F j).map (aT ρ):=Sj _ _ _
def CW:mq (dw ρ T) i=ev ρ (vB T i):=by unfold mq vB;rw[Py];cases lk T i<;>rfl
def ac4(v:XV):(ev ρ v).ji=v.ji:=by cases v<;>rfl
def HU(v:XV):(ev ρ v).cells=v.cells.map (ev ρ):=by cases v<;>first|rfl|(rename_i u;exact gq u)
def alh(v:XV):(ev ρ v).cell=v.cell:=by cases v<;>rfl
theorem FE(v:XV):(ev ρ v).data=v.data:=by cases v<;>rfl
def aH6(v:XV):(ev ρ v).kZ=v.kZ:=by cases v<;>rfl
theorem all_map{f:α->β}(h:∀a,p (f a)=q a)(l:B α):(l.map f).all p=l.all q:=by rw[List.all_map];congr 1;funext a;exact h a
theorem any_map{f:α->β}(h:∀a,p (f a)=q a)(l:B α):(l.map f).any p=l.any q:=by rw[List.any_map];congr 1;funext a;exact h a
def ZO(v:XV):eZ (ev ρ v)=ev ρ (uv v):=by cases v<;>rfl
theorem vS(v:XV):dg (ev ρ v)=ev ρ (qK v):=by
 cases v<;>try rfl
 show ak.agg _=.agg _;rw[gq,gq,lP,lP]
 congr 1
 exact mH λ v _=>ZO v
theorem Rv(u:dB):(u.map (ev ρ)).map eZ=(u.map uv).map (ev ρ):=by rw[lP,lP];exact mH λ v _=>ZO v
theorem ahH(u:dB):(u.map (ev ρ)).map dg=(u.map qK).map (ev ρ):=by rw[lP,lP];exact mH λ v _=>vS v
theorem VC(v:XV):(ev ρ v).open=v.open:=by
 cases v<;>try rfl
 .rename_i f cap;cases cap<;>rfl
 rename_i u;show(aT ρ u).any _=u.any _;rw[gq];exact any_map (λ a=>by rw[FE]) u
def Y7(F:oC)(k:R)(u:dB):uu (dH ρ F) k (aT ρ u)=dH ρ (IQ F k u):=by
 unfold uu IQ dH;rw[lP,lP];refine mH λ p _=>?_
 by_cases h:p.1=k;.simp[aY h]
 simp[aR h]
def Ra(d k:R):∀S:mL,jW (S.map (dH ρ)) d k=(DC S d k).map (aT ρ)
 |[]=>rfl
 |F::S=>by
  show(if d=(S.map _).length then lk _ k else jW _ d k)=(if d=S.length then lk F k else DC S d k).map _;rw[br];by_cases h:d=S.length;.rw[aY h,aY h,Fh]
  rw[aR h,aR h,Ra d k S]
def abA(d k:R)(u:dB):∀S:mL,qm (S.map (dH ρ)) d k (aT ρ u)=(NP S d k u).map (dH ρ)
 |[]=>rfl
 |F::S=>by
  show(if d=(S.map _).length then uu _ k _::S.map _ else dH ρ F::qm _ d k _)=(if d=S.length then IQ F k u::S else F::NP S d k u).map _;rw[br];by_cases h:d=S.length;.rw[aY h,aY h,Y7];rfl
  rw[aR h,aR h,abA d k u S];rfl
def Bw(s:XS):(bX ρ s).up.length=s.up.length:=br _
def Nt(s:XS)(d k:R):cu (bX ρ s) d k=(Br s d k).map (aT ρ):=by
 unfold cu Br;rw[Bw];by_cases h:d=s.up.length;.rw[aY h,aY h];exact Fh
 rw[aR h,aR h];exact Ra d k _
def atH(s:XS)(d k:R)(u:dB):tv (bX ρ s) d k (aT ρ u)=bX ρ (Vp s d k u):=by
 unfold tv Vp;rw[Bw];by_cases h:d=s.up.length;.rw[aY h,aY h];show aG.mk _ _ _=aG.mk _ _ _;rw[<-Y7];rfl
 rw[aR h,aR h];show aG.mk _ _ _=aG.mk _ _ _;rw[<-abA];rfl
def ayl(s:XS)(d k:R)(u:dB):tR (bX ρ s) d k (aT ρ u)=bX ρ (YG s d k u):=by
 unfold tR YG;rw[Bw];by_cases h:d=s.up.length;.rw[aY h,aY h];show aG.mk _ _ _=aG.mk _ _ _;rw[<-Y7];rfl
 rw[aR h,aR h];show aG.mk _ _ _=aG.mk _ _ _;rw[<-abA];rfl
mutual
theorem ahv(d k:R):∀v:XV,qy d k (ev ρ v)=WG d k v
 |.sc _=>rfl|.int _ _ _=>rfl|.bs _=>rfl|.ss _=>rfl|.sl _ _=>rfl|.sx _ _=>rfl
 |.ptr _ _ _=>rfl|.rp _ _=>rfl|.ms _ _ _ _=>rfl|.un=>rfl
 |.fn _ cs=>Ij d k cs
 |.agg cs=>Ij d k cs
 |.bp cs=>Ij d k cs
theorem Ij(d k:R):∀v:B XV,qd d k (aT ρ v)=Bp d k v
 |[]=>rfl
 |v::l=>by rw[aT,qd,Bp,ahv d k v,Ij d k l]
end
def ac3(d k:R):∀T:XT,wz d k (dw ρ T)=JN d k T
 |[]=>rfl
 |(i,v)::T=>by show(qy d k _&&wz d k (dw ρ T))=_;rw[ahv,ac3 d k T];rfl
def V9(d k:R):∀T:oC,xO d k (dH ρ T)=JQ d k T
 |[]=>rfl
 |(i,v)::T=>by show(qd d k _&&xO d k (dH ρ T))=_;rw[Ij,V9 d k T];rfl
def af3(k:R)(F:oC):np k (dH ρ F)=dH ρ (np k F):=by unfold np dH;rw[List.filter_map];rfl
def QZ(T:XT)(s:XS)(k:R)(u:dB):iX (dw ρ T) (bX ρ s) k (aT ρ u)=(JO T s k u).map (bX ρ):=by unfold iX JO;have e2:(bX ρ s).cur=dH ρ _:=rfl;rw[Bw,ac3,e2,af3,V9,Ij,<-(show u.all _=(aT ρ u).all _ by rw[gq];exact(all_map (λ a=>alh a) u).symm)];cases (JN _ k T&&JQ _ k _&&Bp _ k u&&u.all _)<;>rfl
def Zo(u:dB)(off:R)(new:dB):eR (u.map (ev ρ)) off (new.map (ev ρ))=(L4 u off new).map (ev ρ):=by unfold eR L4;rw[br,zD,zD,ad2,ad3]
def aGC(u:dB)(off n:R):yA (u.map (ev ρ)) off n=(O5 u off n).map (azq (ev ρ)):=by
 unfold yA O5;rw[br];by_cases h:off+n<=u.length;.simp
 rw[aR h,aR h];rfl
def uf(ρ:bC)(l:sd):q9:=l.map λ p=>(p.1,ev ρ p.2)
theorem YM(u:yg):∀(l:sd) (y:dB),oZ u (y.map (ev ρ)) (uf ρ l)=(Lf u y l).map (azq (ev ρ))
 |[],y=>rfl
 |(i,v)::l,y=>by
  show oZ u _ ((i,ev ρ v)::uf ρ l)=_;unfold oZ Lf;cases u[i]?;.rfl
  rename_i p;obtain⟨off,size⟩:=p;simp[ac4,HU];cases v.ji<;>cases v.cells.length==size<;>cases decide (off+size<=y.length)<;>try rfl
  rw[Zo];exact YM u l _
def akb(sz:R):∀(l:sd) (es:xY),sF sz (fH ρ es) (uf ρ l)=(QT sz es l).map (fH ρ)
 |[],es=>rfl
 |(i,v)::l,es=>by
  show sF sz _ ((i,ev ρ v)::uf ρ l)=_;unfold sF QT;rw[HU,all_map (λ a=>FE a) _,(show(fH ρ es).length=es.length by rw[qS,br]),br];cases v.cells.all _<;>cases v.cells.length==sz<;>cases decide (i<es.length)<;>try rfl
  rw[Rv,show(fH ρ es).set i _=fH ρ (es.set i _) by rw[qS,qS,apM,gq]];exact akb sz l _
def FR:∀(l:lC) (T:XT),kI l (dw ρ T)=dw ρ (GM l T)
 |[],T=>rfl
 |t::l,T=>by
  unfold kI GM;rw[Py];cases lk T t;.exact FR l T
  rename_i v;show kI l ((t,dg _)::dw ρ T)=_;rw[vS];exact FR l ((t,qK v)::T)
def Dz(n:R)(T:XT)(d:fV)(v:XV):fk n (dw ρ T) d (ev ρ v)=dw ρ (tC n T d v):=by
 unfold fk tC;cases d;.rfl
 rename_i d;by_cases h:d<n;.simp[aY h];rfl
 simp[aR h]
def aaG{sz:R}{w:XV}(h:U4 sz v=O w):xF sz (ev ρ v)=ev ρ w:=by
 unfold U4 at h;split at h;.cases h;rfl
 .cases h
 rename_i h1 h2;cases h;cases v with
 |sl x o=>
  cases o;.exact aei
  rename_i z;cases z;.exact(h2 x Q).elim
  rename_i z;exact aeL
 |sx es o=>
  cases es
  .cases o;.rfl
   rename_i z;cases z;.exact(h1 Q).elim
   rename_i z;rfl
  rename_i e es;rfl
 |_=>rfl
def aHc(D k n:R)(s v:XV):AK D k n (ev ρ s) (ev ρ v)=ev ρ (Tw D k n s v):=by
 cases v with
 |ms d u len sz=>
  show(if d=D/\u=k/\len=n/\sz=1 then ev ρ s else ak.ms d u len sz)=ev ρ (if d=D/\u=k/\len=n/\sz=1 then s else .ms d u len sz);by_cases h:d=D/\u=k/\len=n/\sz=1;.rw[aY h,aY h]
  rw[aR h,aR h];rfl
 |_=>rfl
def Sw(u:dB):((aT ρ u).map λ c=>[eZ c])=fH ρ (u.map λ c=>[uv c]):=by
 rw[gq,qS,lP,lP];refine mH λ c _=>?_
 show[eZ _]=aT ρ _;rw[ZO];rfl
def aDv(k:R)(T:XT)(s:XS):qV k (dw ρ T) (bX ρ s)=(Uw k T s).map λ p=>(dw ρ p.1,bX ρ p.2):=by
 unfold qV Uw;have e2:(bX ρ s).cur=dH ρ _:=rfl;rw[e2,Fh];cases lk _ k;.rfl
 rename_i u
 have eT:zq s.up.length k (aT ρ u).length (.sl ((aT ρ u).map λ c=>[eZ c]) X) (dw ρ T)=dw ρ (T.map λ p=>(p.1,Tw s.up.length k u.length (.sx (u.map λ c=>[uv c]) X) p.2)):=by
  unfold zq dw;rw[lP,lP,Sw,show(aT ρ u).length=u.length by rw[gq,br]];refine mH λ p _=>?_
  show(p.1,AK _ _ _ (ev ρ (.sx _ X)) _)=_;rw[aHc];rfl
 simp[(show(aT ρ u).all _=u.all _ by rw[gq];exact all_map (λ a=>FE a) u),Bw,eT,ac3,af3,V9];cases u.all _;.rfl
 cases (JN _ k _&&JQ _ k _)<;>rfl
def afQ:∀(l:bG) (T:XT) (s:XS),uX l (dw ρ T) (bX ρ s)=(Qh l T s).map λ p=>(dw ρ p.1,bX ρ p.2)
 |[],T,s=>rfl
 |k::l,T,s=>by
  unfold uX Qh;rw[aDv];cases Uw k T s;.rfl
  rename_i p;exact afQ l _ _
def azJ(s:XS){w:XV}(h:JZ s v=w)(A:w≠.un):DU (bX ρ s) (ev ρ v)=DU (bX ρ s) (ev ρ w):=by
 cases v with
 |ms d k len sz=>
  unfold JZ at h;simp at h;cases y:Br s d k;.rw[y]at h;exact(A h.symm).elim
  rename_i u;rw[y]at h;simp at h;split at h;.rename_i h1 h2;subst h;rw[bq,UK,UK]at h2;obtain⟨h2,rfl⟩:=h2;show(match cu _ d k with|some u=>_|none=>X)=O _;rw[Nt,y];simp only[Ot,(show(aT ρ u).all _=V by rw[gq];exact(all_map (λ a=>FE a) u).trans h1),(show(len*1==(aT ρ u).length)=V by rw[gq,br,OF,UK];exact h2)];rw[<-Sw];have:qx 1 _ _=((aT ρ u).map eZ).map _:=WN _;rw[br,lP,(show(aT ρ u).length=len by rw[gq,br];exact h2.symm)]at this;exact fP O this
  exact(A h.symm).elim
 |_=>rw[<-h];rfl
def ajx(f:α->β)(l:bG)(T:B (R×α)):qG l (T.map λ p=>(p.1,f p.2))=(qG l T).map λ p=>(p.1,f p.2):=by
 induction l with
 |nil=>rfl
 |cons i l u=>
  rw[YV,YV,u,Sj];cases lk T i<;>rfl
def CY(o:ze)(T:XT)(s:XS):qX o (dw ρ T) (bX ρ s)=(dw ρ (jm o T s).1,bX ρ (jm o T s).2):=by
 cases o;.rfl
 rename_i p;obtain⟨a,b⟩:=p;show(qG a _,aG.mk s.w (qG b (dH ρ _)) (s.up.map _))=(dw ρ (qG a T),aG.mk s.w (dH ρ (qG b _)) (s.up.map _));unfold dw dH;rw[ajx,ajx]
def akK(h0:ρ 0=SV.z){v:ak}{w:XV}(h:KG v=O w):ev ρ w=v:=by
 unfold KG at h;split at h<;>cases h;.show ak.sc _=_;rw[h0];show ak.sc (.int _ (0+_))=_;rw[zF]
 .rfl
 .rfl
 rfl
def GR(h0:ρ 0=SV.z):∀{v:be} {w:dB},yy v=O w->aT ρ w=v
 |[],w,h=>by cases h;rfl
 |v::l,w,h=>by unfold yy at h;split at h<;>cases h;rename_i a r y u;rw[aT,akK h0 y,GR h0 u]
def aJH(h0:ρ 0=SV.z){v:ak}{w:XV}(h:xv v=O w):ev ρ w=v:=by
 unfold xv at h;split at h;.split at h<;>cases h;rename_i l u;show ak.agg _=_;rw[GR h0 u]
 exact akK h0 h
variable{gl:bH}
theorem jz(h0:ρ 0=SV.z){x:eK}(h:iI T x=O v):cq gl (dw ρ T) x=O (ev ρ v):=by
 cases x with
 |t i=>cases h;show O _=_;rw[CW]
 |i n=>cases h;show O (ak.sc _)=O (.sc _);rw[h0];show _=O (ak.sc (.int .i64 (0+n)));rw[zF]
 |b x=>cases h;rfl
 |v x=>show O x=_;rw[aJH h0 h]
 |g n=>cases h
 |f f=>cases h;rfl
def aay(h0:ρ 0=SV.z):∀{x:wH} {v:dB},ER T x=O v->vK gl (dw ρ T) x=O (aT ρ v)
 |[],v,h=>by cases h;rfl
 |x::l,v,h=>by unfold ER at h;split at h<;>cases h;rename_i a r y u;unfold vK;rw[jz h0 y,aay h0 u];rfl
def OX(h0:ρ 0=SV.z):∀{x:xB} {v:sd},De T x=O v->ql gl (dw ρ T) x=O (uf ρ v)
 |[],v,h=>by cases h;rfl
 |(i,x)::l,v,h=>by unfold De at h;split at h<;>cases h;rename_i a r y u;unfold ql;rw[jz h0 y,OX h0 u];rfl
def aog(h0:ρ 0=SV.z){x:Eh}{v:kt}(h:Jv T x=O v):vF gl (dw ρ T) x=O (v.map (ev ρ)):=by
 cases x;.cases h;rfl
 rename_i x;unfold Jv at h;simp at h;cases u:iI T x;.rw[u]at h;cases h
 rename_i a;rw[u]at h;cases h;show(match cq gl _ x with|some a=>O _|none=>X)=_;rw[jz h0 u];rfl
def Vn{w:XV}(h:amE v=O w):En (ev ρ v)=O (ev ρ w):=by cases v<;>first|(cases h;rfl)|cases h
def acS{o:R}{w:XV}(h:alT o v=O w):Fw o (ev ρ v)=O (ev ρ w):=by cases v<;>first|(cases h;rfl)|cases h
def aml(agg:mi)(n:R)(u:dB)(off:R):pL agg n (aT ρ u) off=(Hu agg n u off).map (ev ρ):=by
 unfold pL Hu;rw[gq];cases agg;.exact mu
 rw[aGC];cases O5 u off n;.rfl
 rename_i l;show O (ak.agg _)=O (.agg _);rw[gq]
def O0(tk agg:mi)(n:R)(s:XS)(v:XV){r:XV×lY×XS}(h:JS tk agg n s v=O r):wx tk agg n (bX ρ s) (ev ρ v)=O (ev ρ r.1,r.2.1,bX ρ r.2.2):=by
 cases v with
 |rp u off=>
  unfold JS at h;show(match pL agg n _ off with|some v=>O _|none=>X)=_;rw[aml];simp at h;cases hx:Hu agg n u off;.rw[hx]at h;cases h
  rename_i v;rw[hx]at h;cases h;simp[vS]
 |ptr d k off=>
  unfold JS at h;simp at h;show(match cu _ d k with|some u=>_|none=>X)=_;rw[Nt];cases y:Br s d k;.rw[y]at h;cases h
  rename_i u;rw[y]at h;simp[aml]at h⊢;cases hx:Hu agg n u off;.rw[hx]at h;cases h
  rename_i v;rw[hx]at h;cases tk;.cases h;simp[vS]
  cases h;simp;rw[<-ayl,(show(cond agg _ _)=(cond agg v.cells [v]).map _ by cases agg with|false=>rfl|true=>exact HU v),Rv,gq,gq,Zo]
 |_=>cases h
def YL(s:XS)(n:R)(x v:XV){r:XS×R×R}(h:Zy s n x v=O r):D7 (bX ρ s) n (ev ρ x) (ev ρ v)=O (bX ρ r.1,r.2.1,r.2.2):=by
 cases x with
 |ptr d k off=>
  unfold Zy at h;simp at h;show(match cu _ d k with|some D=>_|none=>X)=_;rw[Nt];cases u:Br s d k;.rw[u]at h;cases h
  rename_i D;rw[u]at h;simp[ac4,HU,Bw,all_map (λ a=>FE a) _,all_map (λ a=>alh a) _,gq]at h⊢;split at h<;>cases h;rename_i h1 h2 A y;rw[h1,h2,A,y,Zo,<-gq,atH]
 |_=>cases h
def Zt{w:XV}(h:xEx i v=O w):yM i (ev ρ v)=O (ev ρ w):=by
 cases v with
 |bp u=>
  unfold xEx at h;simp at h;show(match(aT ρ u)[i]?with|some v=>O _|none=>X)=_;rw[gq,mu];cases hx:u[i]?;.rw[hx]at h;cases h
  rename_i v;rw[hx]at h;cases h;simp[vS]
 |_=>cases h
def aiQ(v:XV):po (ev ρ v)=ev ρ (Ua v):=by
 cases v<;>try rfl
 .rename_i f cap;cases cap<;>rfl
 rename_i u;show(match(aT ρ u).all _ with|true=>ak.agg _|false=>.bp [])=ev ρ (match u.all _ with|true=>.agg _|false=>.bp []);rw[(show(aT ρ u).all _=u.all _ by rw[gq];exact all_map (λ a=>FE a) _)];cases u.all _;.rfl
 show ak.agg _=.agg _;rw[gq,gq,Rv]
theorem Ls(l:dB):rQ (aT ρ l)=ev ρ (xL l):=by
 have u:∀l,(aT ρ l).map (λ v=>dg (po v))=aT ρ (l.map λ v=>qK (Ua v)):=by intro l;rw[gq,gq,lP,lP];exact mH λ v _=>by show dg _=_;rw[aiQ,vS];rfl
 match l with
 |[]=>rfl
 |[v]=>exact aiQ v
 |v::w::l=>exact fP _ (u (v::w::l))
def J6(s:XS)(T:XT):∀(rs:zm) {l:dB},vX s T rs=O l->oV (bX ρ s) (dw ρ T) rs=O (aT ρ l)
 |[],l,h=>by cases h;rfl
 |.t t::rs,l,h=>by
  unfold vX at h;cases u:vX s T rs;.rw[u]at h;cases h
  rename_i r;rw[u]at h;cases h;unfold oV;rw[J6 s T rs u,CW];rfl
 |.c a agg n::rs,l,h=>by
  unfold vX at h;cases y:JS W agg n s _;.rw[y]at h;cases h
  rename_i q;cases u:vX s T rs;.rw[y,u]at h;cases h
  rename_i r;rw[y,u]at h;cases h;unfold oV;rw[J6 s T rs u,CW,O0 W agg n s _ y];rfl
def Ip:∀(l:dB) (i:R),vo i (aT ρ l)=dw ρ (DL i l)
 |[],i=>rfl
 |v::l,i=>by rw[aT,vo,Ip l _];rfl
end
section
variable{K:XK}{P:bC->α->Prop}{aah:aK}{e:be}{j:U}{ls:GH}{v:dB}
variable{ρ ρ':bC}
def aX(l:sY):bC:=λ x=>l.getD x SV.z
def cM(ρ:bC)(p:zj):Int:=(ρ p.1).i+p.2
def ij(ρ:bC):SE->SV
 |.i y d=>⟨(ρ y).i+d,W,[],[]⟩
 |.s y=>ρ y
def de(tb:iP)(nm:R)(aah:aK)(j:U)(e:be):Prop:=
 match tb.td nm with
 |X=>False
 |O d=>aah.length=d.p/\∃u:sY,u=SV.z::aah.map (λ n=>⟨n,W,[],[]⟩)++⟨j,W,[],[]⟩::u.drop (d.p+2)/\u.length<=d.k/\e=aT (aX u) d.cells/\
  ∀f∈d.facts,match f with
   |.le a b c=>(aX u a).i<=(aX u b).i+c
   |.sl x n c y bs=>((aX u x).l.length:U)=(aX u n).i+c/\∀(i:R) e,(aX u x).l[i]? =O e->if A:y<nm then de tb y (bs.map (cM (aX u))) i e else False
   |.str x set=>(aX u x).s∈set
   |.bb x b=>(aX u x).b=b
   |.el _ _ _ _=>False
   |.sum z a b c=>(aX u z).i=(aX u a).i+(aX u b).i+c
   |.pr k l=>tb.pr k (l.map (ij (aX u)))
termination_by nm
def cL(tb:iP)(ρ:bC):ik->Prop
 |.le a b c=>(ρ a).i<=(ρ b).i+c
 |.sl x n c nm bs=>((ρ x).l.length:U)=(ρ n).i+c/\∀(i:R) e,(ρ x).l[i]? =O e->de tb nm (bs.map (cM ρ)) i e
 |.str x set=>(ρ x).s∈set
 |.bb x b=>(ρ x).b=b
 |.el x i c cells=>∃j:R,(ρ i).i+c=j/\(ρ x).l[j]? =O (aT ρ cells)
 |.sum z a b c=>(ρ z).i=(ρ a).i+(ρ b).i+c
 |.pr k l=>tb.pr k (l.map (ij ρ))
def KD(tb:iP)(ρ:bC):Gl->Prop
 |.f f=>cL tb ρ f
 |.len x n c=>((ρ x).l.length:U)=(ρ n).i+c
def di(tb:iP)(r:Mg):Prop:=∀ρ:bC,ρ 0=SV.z->(∀p∈r.anc,KD tb ρ p)->cL tb ρ r.xo
def ph(h:aa8 a b=V):a<b:=by rw[Nat.blt_eq]at h;exact h
def ik.low(nm:R):ik->mi
 |.sl _ _ _ u _=>aa8 u nm
 |.el _ _ _ _=>W
 |_=>V
def Ih:R->U->U->Sem Value
 |100,a,b=>avI .and .u64 a b
 |101,a,b=>avI .or .u64 a b
 |102,a,b=>avI .andNot .u64 a b
 |_,a,b=>adx .shl .u64 a .i64 b
def FX(tb:iP):Prop:=∀(id:R) (a b z:U),100<=id->id<=103->Ih id a b=pure (.int .u64 z)->tb.pr id [⟨a,W,[],[]⟩,⟨b,W,[],[]⟩,⟨z,W,[],[]⟩]
structure Yi (tb:iP):Prop where
 eq:∀a b:U,tb.pr 104 [⟨a,false,[],[]⟩,⟨b,false,[],[]⟩]->a=b
 ne:∀a b:U,tb.pr 105 [⟨a,false,[],[]⟩,⟨b,false,[],[]⟩]->a≠b
 neI:∀a b:U,a≠b->tb.pr 105 [⟨a,false,[],[]⟩,⟨b,false,[],[]⟩]
 nes:∀x y:SV,tb.pr 106 [x,y]->x.s≠y.s
 Xi:∀x y:SV,(∀(i:R) e,x.l[i]? =some e->y.l[i]? =some e)->tb.pr 107 [x,y]
 ane:∀x y:SV,tb.pr 107 [x,y]->∀(i:R) e,x.l[i]? =some e->y.l[i]? =some e
 ff:∀l,¬tb.pr 108 l
 le:∀a b:U,tb.pr 109 [⟨a,false,[],[]⟩,⟨b,false,[],[]⟩]->a<=b
def kh(tb:iP):Prop:=(∀nm d,tb.td nm=O d->d.facts.all (ik.low nm)=V/\d.p+2<=d.k)/\(∀k r,r∈tb.rl k->di tb r)/\FX tb/\Yi tb
theorem iO{tb:iP}(P:kh tb){d:ym}(M:tb.td nm=O d):
 de tb nm aah j e↔aah.length=d.p/\∃u:sY,u=SV.z::aah.map (λ n=>⟨n,W,[],[]⟩)++⟨j,W,[],[]⟩::u.drop (d.p+2)/\u.length<=d.k/\e=aT (aX u) d.cells/\∀f∈d.facts,cL tb (aX u) f:=by
 have J:=(P.1 nm d M).1;rw[iw]at J;rw[de,M];constructor
 .rintro⟨h1,u,h2,F,D,h5⟩
  refine⟨h1,u,h2,F,D,λ f y=>?_⟩;have h:=h5 f y;cases f with
  |sl x n c A bs=>
   refine⟨h.1,λ i e K=>?_⟩;grind
  |le a b c=>exact h
  |str x s=>exact h
  |bb x b=>exact h
  |el x i c cells=>exact h.elim
  |sum z a b c=>exact h
  |pr k l=>exact h
 .rintro⟨h1,u,h2,F,D,h5⟩
  refine⟨h1,u,h2,F,D,λ f y=>?_⟩;have h:=h5 f y;have N:=J f y;cases f with
  |sl x n c A bs=>exact⟨h.1,λ i e K=>((OG (ph N))▸h.2 i e K)⟩
  |le a b c=>exact h
  |str x s=>exact h
  |bb x b=>exact h
  |el x i c cells=>cases N
  |sum z a b c=>exact h
  |pr k l=>exact h
def aF0{tb:iP}(u:kh tb){d:ym}(y:tb.td nm=O d)(h:de tb nm aah j e):e.length=d.cells.length:=by obtain⟨_,D,_,_,A,_⟩:=(iO u y).1 h;rw[A,gq,br]
def dj(n:R)(ρ ρ':bC):Prop:=∀x,x<n->ρ x=ρ' x
def dj.rfl:dj n ρ ρ:=λ _ _=>Eq.refl _
theorem dj.trans{ρ'':bC}(h:dj n ρ ρ')(y:dj m ρ' ρ'')(u:n<=m):dj n ρ ρ'':=λ x hx=>(h x hx).trans (y x (eU hx u))
def dj.symm(h:dj n ρ ρ'):dj n ρ' ρ:=λ x hx=>(h x hx).symm
def dj.mono(h:dj m ρ ρ')(u:n<=m):dj n ρ ρ':=λ x hx=>h x (eU hx u)
def bD(n:R)(v:XV):Prop:=∀ρ ρ',dj n ρ ρ'->ev ρ v=ev ρ' v
def fM(n:R)(v:dB):Prop:=∀ρ ρ',dj n ρ ρ'->aT ρ v=aT ρ' v
def lD(n:R)(T:XT):Prop:=∀ρ ρ',dj n ρ ρ'->dw ρ T=dw ρ' T
def lH(n:R)(s:XS):Prop:=∀ρ ρ',dj n ρ ρ'->bX ρ s=bX ρ' s
def fM.aB2(u:n<=m)(h:fM n v):fM m v:=λ _ _ k=>h _ _ (k.mono u)
def yY(n:R):SE->Prop
 |.i y _=>y<n
 |.s y=>y<n
def yY.mono(u:n<=m){e:SE}(h:yY n e):yY m e:=by cases e<;>exact eU h u
def yY.qI(u:dj n ρ ρ'){e:SE}(h:yY n e):ij ρ e=ij ρ' e:=by
 cases e with
 |i y d=>show SV.mk _ _ _ _=SV.mk _ _ _ _;rw[u y h]
 |s y=>exact u y h
def ik.bd(n:R):ik->Prop
 |.le a b _=>a<n/\b<n
 |.sl x m _ _ bs=>x<n/\m<n/\∀p∈bs,p.1<n
 |.str x _=>x<n
 |.bb x _=>x<n
 |.el x i _ cells=>x<n/\i<n/\fM n cells
 |.sum z a b _=>z<n/\a<n/\b<n
 |.pr _ l=>∀e∈l,yY n e
def ik.aIe(u:n<=m){f:ik}(h:f.bd n):f.bd m:=by
 cases f with
 |le a b c=>exact⟨eU h.1 u,eU h.2 u⟩
 |sl x k c nm bs=>exact⟨eU h.1 u,eU h.2.1 u,λ p y=>eU (h.2.2 p y) u⟩
 |str x s=>exact eU h u
 |bb x b=>exact eU h u
 |el x i c cells=>exact⟨eU h.1 u,eU h.2.1 u,h.2.2.aB2 u⟩
 |sum z a b c=>exact⟨eU h.1 u,eU h.2.1 u,eU h.2.2 u⟩
 |pr k l=>exact λ e A=>(h e A).mono u
def LI(h:dj n ρ ρ'){p:zj}(u:p.1<n):cM ρ p=cM ρ' p:=by unfold cM;rw[h _ u]
theorem Ar(h:dj n ρ ρ'){bs:rL}(y:∀p∈bs,p.1<n):bs.map (cM ρ)=bs.map (cM ρ'):=mH λ p u=>LI h (y p u)
variable{tb:iP}
def aDM(h:dj n ρ ρ'){f:ik}(u:f.bd n)(y:cL tb ρ f):cL tb ρ' f:=by
 cases f with
 |le a b c=>show(ρ' a).i<=(ρ' b).i+c;rw[<-h a u.1,<-h b u.2];exact y
 |sl x k c nm bs=>
  show((ρ' x).l.length)=(ρ' k).i+c/\∀(i:R) e,(ρ' x).l[i]? =O e->de tb nm _ i e;rw[<-h x u.1,<-h k u.2.1,<-Ar h u.2.2];exact y
 |str x s=>show(ρ' x).s∈s;exact(h x u)▸y
 |bb x b=>show(ρ' x).b=b;exact(h x u)▸y
 |el x i c cells=>show∃j:R,(ρ' i).i+c=j/\(ρ' x).l[j]? =O _;rw[<-h x u.1,<-h i u.2.1,<-u.2.2 _ _ h];exact y
 |sum z a b c=>show(ρ' z).i=(ρ' a).i+(ρ' b).i+c;rw[<-h z u.1,<-h a u.2.1,<-h b u.2.2];exact y
 |pr k l=>
  show tb.pr k _;rw[mH λ e A=>((u e A).qI h).symm];exact y
def bD.mono(u:n<=m){v:XV}(h:bD n v):bD m v:=λ _ _ k=>h _ _ (k.mono u)
def fM.mono(u:n<=m)(h:fM n v):fM m v:=λ _ _ k=>h _ _ (k.mono u)
def lD.mono(u:n<=m){v:XT}(h:lD n v):lD m v:=λ _ _ k=>h _ _ (k.mono u)
def lH.mono(u:n<=m){v:XS}(h:lH n v):lH m v:=λ _ _ k=>h _ _ (k.mono u)
theorem QJ{x:R}{ρ:bC}{v:SV}(hx:¬x<n):dj n ρ (λ y=>if y=x then v else ρ y):=λ y u=>by grind
def bD.int{x:R}{c:U}(h:bD n (.int k x c)):x<n:=by
 refine ad4 λ hx=>?_
 have:=h (λ _=>SV.z) _ (QJ (v:=⟨1,W,[],[]⟩) hx);simp[ev,SV.z]at this;omega
def bD.sl{x:R}(h:bD n (.sl x o)):x<n:=by
 refine ad4 λ hx=>?_
 have:=h (λ _=>SV.z) _ (QJ (v:=⟨1,W,[],[[]]⟩) hx);simp[ev,SV.z]at this
def bD.bs{x:R}(h:bD n (.bs x)):x<n:=by
 refine ad4 λ hx=>?_
 have:=h (λ _=>SV.z) _ (QJ (v:=⟨1,V,[],[[]]⟩) hx);simp[ev,SV.z]at this
def bD.ss{x:R}(h:bD n (.ss x)):x<n:=by
 refine ad4 λ hx=>?_
 have:=h (λ _=>SV.z) _ (QJ (v:=⟨1,V,[1],[[]]⟩) hx);simp[ev,SV.z]at this
theorem gL{x:R}{c:U}(h:x<n):bD n (.int k x c):=λ ρ ρ' a=>by unfold ev;rw[a x h]
def tZ{x:R}(h:x<n):bD n (.sl x o):=λ ρ ρ' a=>by unfold ev;rw[a x h]
def Hv{x:R}(h:x<n):bD n (.bs x):=λ ρ ρ' a=>by unfold ev;rw[a x h]
def Qf{x:R}(h:x<n):bD n (.ss x):=λ ρ ρ' a=>by unfold ev;rw[a x h]
def ua{a:au}:bD n (.sc a):=λ ρ ρ' a=>rfl
structure bV (tb:iP) (ρ:bC) (K:XK):Prop where
 z:ρ 0=SV.z
 ls:∀f∈K.ls,(ρ f.1).i<=(ρ f.2.1).i+f.2.2
 fs:∀f∈K.fs,cL tb ρ f
structure cS (K:XK):Prop where
 z:0<K.nx
 ls:∀f∈K.ls,f.1<K.nx/\f.2.1<K.nx
 fs:∀f∈K.fs,f.bd K.nx
def bV.qI(h:bV tb ρ K)(y:cS K)(A:dj K.nx ρ ρ'):bV tb ρ' K where
 z:=(A 0 y.z)▸h.z
 ls:=λ f u=>by rw[<-A _ (y.ls f u).1,<-A _ (y.ls f u).2];exact h.ls f u
 fs:=λ f u=>aDM A (y.fs f u) (h.fs f u)
def AM{a:U}(h:wB a=V):0<=a:=by
 unfold wB at h;split at h;.exact ad5 _
 cases h
def aeU(A:(ρ 0).i=0)(y:∀f∈ls,(ρ f.1).i<=(ρ f.2.1).i+f.2.2):∀{m b:R} {c:U},LO ls m b c=V->0<=(ρ b).i+c
 |0,b,c,h=>by unfold LO at h;rw[bq]at h;have:=cI h.1;subst this;have:=AM h.2;omega
 |m+1,b,c,h=>by
  unfold LO at h;split at h;.rename_i u;have u:=cI u;subst u;have:=AM h;omega
  rw[Ey]at h;obtain⟨f,D,h⟩:=h;rw[bq]at h;have h1:=y f D;rw[cI h.1]at h1;have h2:=h.2;split at h2;.rename_i h0;rw[cI h0]at h1;have:=AM h2;omega
  have:=aeU A y h2;omega
def abL(A:(ρ 0).i=0)(u:∀f∈ls,(ρ f.1).i<=(ρ f.2.1).i+f.2.2):∀{m a b:R} {c:U},JC ls m a b c=V->(ρ a).i<=(ρ b).i+c
 |0,a,b,c,h=>by unfold JC at h;rw[bq]at h;have:=cI h.1;subst this;have:=AM h.2;omega
 |m+1,a,b,c,h=>by
  unfold JC at h;rw[rP]at h;rcases h with h|h
  .rw[bq]at h;have:=cI h.1;subst this;have:=AM h.2;omega
  split at h;.rename_i y;have y:=cI y;subst y;have:=aeU A u h;omega
  rw[Ey]at h;obtain⟨f,D,h⟩:=h;rw[bq]at h;have h1:=u f D;have h2:=abL A u h.2;rw[cI h.1]at h1;omega
def eP(h:bV tb ρ K){c:U}(u:K.le a c b d=V):(ρ a).i+c<=(ρ b).i+d:=by have:=abL (by rw[h.z];rfl) h.ls u;omega
theorem kg(h:bV tb ρ K){c:U}(y:(ρ a).i+c<=(ρ b).i+d):bV tb ρ (K.add a c b d)where
 z:=h.z
 ls:=λ f u=>by
  rcases cg.1 u with rfl|u
  .grind
  exact h.ls f u
 fs:=h.fs
def jJ(h:cS K){c:U}(A:a<K.nx)(y:b<K.nx):cS (K.add a c b d)where
 z:=h.z
 ls:=λ f u=>by
  rcases cg.1 u with rfl|u
  .exact⟨A,y⟩
  exact h.ls f u
 fs:=h.fs
def aaT{K:XK}{a b:R}{c:U}:K.fact (.le a b c)=K\/K.fact (.le a b c)={K with ls:=(a,b,c)::K.ls}:=by
 show(match MB a b c _ with|true=>K|false=>{K with ls:=(a,b,c)::K.ls})=_\/(match MB a b c _ with|true=>K|false=>{K with ls:=(a,b,c)::K.ls})=_;cases MB a b c _;.exact .inr Q
 exact .inl Q
def vJ(h:bV tb ρ K){f:ik}(y:cL tb ρ f):bV tb ρ (K.fact f):=by
 cases f with
 |le a b c=>
  rcases@aaT K a b c with e|e<;>rw[e]
  .exact h
  exact⟨h.z,λ g u=>by
   rcases cg.1 u with rfl|u
   .exact y
   exact h.ls g u,h.fs⟩
 |_=>
  exact⟨h.z,h.ls,λ g u=>by
   rcases cg.1 u with rfl|u
   .exact y
   exact h.fs g u⟩
theorem px{f:ik}:(K.fact f).nx=K.nx:=by
 cases f
 case le a b c=>rcases@aaT K a b c with e|e<;>rw[e]
 all_goals rfl
def vk(h:cS K){f:ik}(y:f.bd K.nx):cS (K.fact f):=by
 cases f with
 |le a b c=>
  rcases@aaT K a b c with e|e<;>rw[e]
  .exact h
  exact⟨h.z,λ g u=>by
   rcases cg.1 u with rfl|u
   .exact y
   exact h.ls g u,h.fs⟩
 |_=>
  exact⟨h.z,h.ls,λ g u=>by
   rcases cg.1 u with rfl|u
   .exact y
   exact h.fs g u⟩
theorem Iy:∀{l:um} {K:XK},bV tb ρ K->(∀f∈l,cL tb ρ f)->bV tb ρ (K.facts l)
 |[],K,h,_=>h
 |f::l,K,h,u=>by show bV tb ρ ((K.fact f).facts l);exact Iy (vJ h (u f dJ)) λ g y=>u g (cV _ y)
theorem xM:∀{l:um} {K:XK},(K.facts l).nx=K.nx
 |[],K=>rfl
 |f::l,K=>(xM (l:=l)).trans px
theorem NA:∀{l:um} {K:XK},cS K->(∀f∈l,f.bd K.nx)->cS (K.facts l)
 |[],K,h,_=>h
 |f::l,K,h,u=>by show cS ((K.fact f).facts l);exact NA (vk h (u f dJ)) λ g y=>by grind[px]
def RS(h:cS K)(u:K.nx<=n):cS {K with nx:=n}where
 z:=eU h.z u
 ls:=λ f y=>⟨eU (h.ls f y).1 u,eU (h.ls f y).2 u⟩
 fs:=λ f y=>ik.aIe u (h.fs f y)
theorem TS(h:bV tb ρ K)(n:R):bV tb ρ {K with nx:=n}:=⟨h.z,h.ls,h.fs⟩
def sk(h:cS K):cS K.new:=RS h (mS _)
def si(h:bV tb ρ K):bV tb ρ K.new:=TS h _
def il{α:Type}(tb:iP)(ρ:bC)(K:XK)(Bqq:R->α->Prop)(P:bC->α->Prop)(l:B (α×XK)):Prop:=(∀r∈l,K.nx<=r.2.nx/\cS r.2/\Bqq r.2.nx r.1)/\∃r∈l,∃ρ',dj K.nx ρ ρ'/\bV tb ρ' r.2/\P ρ' r.1
def rU{u:XK}{a:α}(J:K.nx<=u.nx)(M:cS u)(h:Bqq u.nx a)(D:dj K.nx ρ ρ')(A:bV tb ρ' u)(y:P ρ' a):il tb ρ K Bqq P [(a,u)]:=⟨λ r F=>bP,_,cJ.2 Q,ρ',D,A,y⟩
theorem ju{a:α}(A:cS K)(h:Bqq K.nx a)(y:bV tb ρ K)(u:P ρ a):il tb ρ K Bqq P [(a,K)]:=rU (aZ _) A h .rfl y u
theorem N7{y u:XK}{a b:α}(n1:y.nx=K.nx)(n2:u.nx=K.nx)(b1:cS y)(b2:cS u)(h1:Bqq K.nx a)(h2:Bqq K.nx b)
 (h:(bV tb ρ y/\P ρ a)\/(bV tb ρ u/\P ρ b)):il tb ρ K Bqq P [(a,y),(b,u)]:=by
 refine⟨λ r A=>?_,?_⟩;.grind
 .rcases h with⟨k,p⟩|⟨k,p⟩
  .exact⟨_,dJ,ρ,.rfl,k,p⟩
  exact⟨_,cV _ (cJ.2 Q),ρ,.rfl,k,p⟩
theorem il.map{y:R->β->Prop}{u:bC->β->Prop}{l:B (α×XK)}(f:α->β)(h:il tb ρ K Bqq P l)(N:∀n a,Bqq n a->y n (f a))(D:∀ρ' a,P ρ' a->u ρ' (f a)):
 il tb ρ K y u (l.map λ p=>(f p.1,p.2)):=by
 obtain⟨h1,r,A,ρ',h2,J,F⟩:=h;refine⟨λ q M=>?_,(f _,r.2),lO.2 ⟨r,A,Q⟩,ρ',h2,J,D _ _ F⟩;grind
abbrev DB{α:Type}:R->α->Prop:=λ _ _=>True
theorem HH(A:cS K)(y:bV tb ρ K){c:U}(D:a<K.nx)(u:b<K.nx):il tb ρ K DB (λ _ x=>x=decide ((ρ a).i+c<(ρ b).i+d)) (D0 K a c b d):=by
 unfold D0;split;.rename_i h;have:=eP y h;grind[ju]
 split;.rename_i h;have:=eP y h;grind[ju]
 refine N7 Q Q (jJ A D u) (jJ A u D) sp sp ?_;grind[kg]
theorem ajF(A:cS K)(y:bV tb ρ K){c:U}(D:a<K.nx)(u:b<K.nx):il tb ρ K DB (λ _ x=>x=decide ((ρ a).i+c=(ρ b).i+d)) (PB K a c b d):=by
 unfold PB;split;.rename_i h;have:=eP y h;grind[ju]
 split;.rename_i h;have:=eP y h;grind[ju]
 have b1:cS ((K.add a c b d).add b d a c):=jJ (jJ A D u) u D;simp only;split;.rename_i h;rw[bq]at h;have h1:=eP y h.1;have h2:=eP y h.2;grind[ju]
 split;.rename_i h;have h1:=eP y h;refine N7 Q Q b1 (jJ A D u) sp sp ?_;grind[kg]
 split;.rename_i h;have h1:=eP y h;refine N7 Q Q b1 (jJ A u D) sp sp ?_;grind[kg]
 refine N7 Q Q b1 A sp sp ?_;grind[kg]
theorem Jb(A:bV tb ρ K){x:R}{c:U}(h:ub K x=O c):(ρ x).i<=c:=by
 unfold ub at h;split at h;.rename_i e;cases h;have:=cI e;subst this;exact A.z▸Int.le_refl _
 have D:∀(l:GH) (r),(∀f∈l,(ρ f.1).i<=(ρ f.2.1).i+f.2.2)->(∀c,r=O c->(ρ x).i<=c)->∀c,l.foldl (λ r f=>match gr f.1 x&&gr f.2.1 0 with|true=>(match r with|some c=>O (min c f.2.2)|none=>O f.2.2)|false=>r) r=O c->(ρ x).i<=c:=by
  intro l;induction l with
  |nil=>exact λ r _ y c h=>y c h
  |cons f l J=>
   intro r F y c h;rw[apA]at h;refine J _ (λ g M=>F g (cV _ M)) (λ N u=>?_) c h;split at u;.rename_i e;rw[bq]at e;have h1:=F f dJ;rw[cI e.1,cI e.2,A.z]at h1;grind[SV.z]
   exact y N u
 exact D _ X A.ls (nofun) c h
theorem abf(A:bV tb ρ K){x:R}{c:U}(h:lb K x=O c):c<=(ρ x).i:=by
 unfold lb at h;split at h;.rename_i e;cases h;have:=cI e;subst this;exact A.z▸Int.le_refl _
 have D:∀(l:GH) (r),(∀f∈l,(ρ f.1).i<=(ρ f.2.1).i+f.2.2)->(∀c,r=O c->c<=(ρ x).i)->∀c,l.foldl (λ r f=>match gr f.1 0&&gr f.2.1 x with|true=>(match r with|some c=>O (max c (-f.2.2))|none=>O (-f.2.2))|false=>r) r=O c->c<=(ρ x).i:=by
  intro l;induction l with
  |nil=>exact λ r _ y c h=>y c h
  |cons f l J=>
   intro r F y c h;rw[apA]at h;refine J _ (λ g M=>F g (cV _ M)) (λ P u=>?_) c h;split at u
   .rename_i e;rw[bq]at e;have h1:=F f dJ;rw[cI e.1,cI e.2,A.z]at h1;have N:=by have:0<=(ρ x).i+f.2.2:=h1;omega
    grind
   exact y P u
 exact D _ X A.ls (nofun) c h
end
section
variable{K:XK}{k':jT}{l:aa6}{n:U}{o:Ay}{v y:XV}
variable{ρ ρ':bC}{tb:iP}{P:aA}
def il.bL{b:mi}{l:xw}(h:il tb ρ K DB (λ _ x=>x=b) l):il tb ρ K bD (λ ρ' v=>ev ρ' v=.sc (.bool b)) (bL l):=h.map _ (λ n a _=>ua) λ ρ' a u=>by subst u;rfl
def il.D8{b:mi}{l:xw}(h:il tb ρ K DB (λ _ x=>x=b) l):il tb ρ K DB (λ _ x=>x= !b) (D8 l):=h.map _ (λ n a _=>trivial) λ ρ' a u=>by subst u;rfl
def tY(ρ:bC)(x:R)(n:U):bC:=λ y=>if y=x then⟨n,W,[],[]⟩else ρ y
def yL{x:R}:dj x ρ (tY ρ x n):=λ y u=>by show _=if y=x then _ else _;rw[aR (by omega)]
def yR{x:R}:(tY ρ x n x).i=n:=by show(if x=x then _ else _:SV).i=_;rw[aY Q]
theorem BC{f:PL}:(xD K o f).nx=K.nx:=by cases o<;>rfl
def BY(h:cS K){f:PL}(u:∀n,(f n).1<K.nx/\(f n).2.2.1<K.nx):cS (xD K o f):=by
 cases o;.exact h
 rename_i n;exact jJ h (u n).1 (u n).2
def Bd(h:bV tb ρ K){f:PL}(u:∀n,o=O n->(ρ (f n).1).i+(f n).2.1<=(ρ (f n).2.2.1).i+(f n).2.2.2):bV tb ρ (xD K o f):=by
 cases o;.exact h
 rename_i n;exact kg h (u n Q)
def axn(k:jT):II k<=0:=by cases k<;>decide
theorem Qe(h0:II k<=n)(h1:n<=FY k):k.wrap n=n:=by
 cases k<;>simp[II,FY]at h0 h1<;>try omega
 .exact FH ⟨h0,aa⟩
 .have e:H5 .u8 n=n%256:=rfl;omega
 have e:H5 .u64 n=n%18446744073709551616:=rfl;omega
def avG{a b:U}(h:sP (a-b)):fU P .sub t (eI a) (eI b)=O (eI (a-b)):=by show O _=_;rw[FH h]
def ak2{a b:U}(u:b≠0):fU P .rem t (.sc (.int k a)) (.sc (.int k b))=O (.sc (.int k (a.tmod b))):=by have e:Go.binOp .rem t (.int k a) (.int k b)=(if k≠k then(stuck _)else ahn .rem k a b):=rfl;show(match uB _ with|O r=>lZ r|X=>X)=_;rw[e,aR (λ h=>h Q)];unfold ahn;rw[aR u];rfl
def aFI{a b:U}(u:b≠0)(h0:II k<=a.tdiv b)(h1:a.tdiv b<=FY k):fU P .quo t (.sc (.int k a)) (.sc (.int k b))=O (.sc (.int k (a.tdiv b))):=by have e:Go.binOp .quo t (.int k a) (.int k b)=(if k≠k then(stuck _)else ahn .quo k a b):=rfl;show(match uB _ with|O r=>lZ r|X=>X)=_;rw[e,aR (λ h=>h Q)];unfold ahn;rw[aR u,Qe h0 h1];rfl
abbrev yh(P:aA)(op:BinOp)(t:bj)(x y:ak):bC->XV->Prop:=λ ρ' v=>fU P op t x y=O (ev ρ' v)
def aDW{a:U}:fU P .shr t (.sc (.int k a)) (.sc (.int k 1))=O (.sc (.int k (a.fdiv 2))):=by show(match uB (adx .shr k a k 1)with|some r=>lZ r|none=>X)=_;unfold adx;rw[(show min _ _=1 by cases k<;>rfl)];rfl
theorem ayt(N:cS K)(A:bV tb ρ K){t:bj}{k:jT}{a b:R}{c:U}(ha:a<K.nx)(ae:b<K.nx)(h:Yg K op k a c b d=O l):
 il tb ρ K bD (yh P op t (.sc (.int k ((ρ a).i+c))) (.sc (.int k ((ρ b).i+d)))) l:=by
 have hz:(ρ 0).i=0:=by rw[A.z];rfl
 unfold Yg at h;split at h
 ·
  split at h
  .split at h
   .rename_i F;rw[bq,bq,bq]at F;obtain⟨⟨⟨h1,h2⟩,Y⟩,Z⟩:=F;have h1:=eP A h1;have h2:=eP A h2;have Y:=eP A Y;have Z:=eP A Z;unfold big at h1 h2 Y Z;rw[hz]at h1 h2 Y Z;have ac:fU P .add t (.sc (.int .i64 ((ρ a).i+c))) (.sc (.int .i64 ((ρ b).i+d)))=O (.sc _):=TF xT;split at h;.rename_i e;have e:=cI e;subst e;cases h;refine ju N (gL ha) A ?_;show fU _ _ _ _ _=O _;rw[ac,hz];congr 3;omega
    split at h;.rename_i e;have e:=cI e;subst e;cases h;refine ju N (gL ae) A ?_;show fU _ _ _ _ _=O _;rw[ac,hz];congr 3;omega
    cases h
    let ρ2:=tY ρ K.nx ((ρ a).i+c+((ρ b).i+d))
    have u:(ρ2 K.nx).i=(ρ a).i+c+((ρ b).i+d):=yR;have D:dj K.nx ρ ρ2:=yL;have ea:ρ2 a=ρ a:=(D a ha).symm;have eb:ρ2 b=ρ b:=(D b ae).symm;have S:bV tb ρ2 K:=A.qI N D;have M:K.nx<K.new.nx:=kF _;have ab:a<K.new.nx:=jc ha;have ah:b<K.new.nx:=jc ae;refine rU (ρ':=ρ2) ?_ ?_ (gL ?_) D ?_ ?_;.grind[px,BC]
    .refine vk ?_ ?_;.refine BY (BY (BY (BY (sk N) ?_) ?_) ?_) ?_<;>(intro n;simp only[BC];exact⟨Ku,Ku⟩)
     simp only[BC];exact⟨M,ab,ah⟩
    .grind[px,BC]
    .refine vJ ?_ (show(ρ2 K.nx).i=(ρ2 a).i+(ρ2 b).i+(c+d) by rw[u,ea,eb];omega);refine Bd (Bd (Bd (Bd (si S) ?_) ?_) ?_) ?_;.intro n J;have:=Jb A J;simp only[u,ea];omega
     .intro n J;have:=abf A J;simp only[u,ea];omega
     .intro n J;have:=Jb A J;simp only[u,eb];omega
     intro n J;have:=abf A J;simp only[u,eb];omega
    show fU _ _ _ _ _=O (ak.sc (.int .i64 ((ρ2 K.nx).i+0)));grind
   cases h
  cases h
 ·
  split at h
  .split at h<;>try cases h
   rename_i F;rw[bq,bq,bq]at F;obtain⟨⟨⟨h1,h2⟩,Y⟩,Z⟩:=F;have h1:=eP A h1;have h2:=eP A h2;have Y:=eP A Y;have Z:=eP A Z;unfold big at h1 h2 Y Z;rw[hz]at h1 h2 Y Z;have ac:fU P .sub t (.sc (.int .i64 ((ρ a).i+c))) (.sc (.int .i64 ((ρ b).i+d)))=O _:=avG xT;split at h;.rename_i e;have e:=cI e;subst e;cases h;refine ju N (gL ha) A ?_;show fU _ _ _ _ _=O _;rw[ac,hz];congr 3;omega
   split at h;.rename_i e;have e:=cI e;subst e;cases h;refine ju N (gL N.z) A ?_;show fU _ _ _ _ _=O (ak.sc (.int .i64 ((ρ 0).i+(c-d))));rw[ac,hz];congr 3;omega
   cases h
   let ρ2:=tY ρ K.nx ((ρ a).i+c-((ρ b).i+d))
   have u:(ρ2 K.nx).i=(ρ a).i+c-((ρ b).i+d):=yR;have D:dj K.nx ρ ρ2:=yL;have ea:ρ2 a=ρ a:=(D a ha).symm;have e0:(ρ2 0).i=0:=by rw[<-D 0 N.z];exact hz
   have S:bV tb ρ2 K:=A.qI N D;have M:K.nx<K.new.nx:=kF _;have ab:a<K.new.nx:=jc ha;have ai:0<K.new.nx:=AZ _;refine rU (ρ':=ρ2) ?_ ?_ (gL ?_) D ?_ ?_;.grind[BC]
   .refine BY (BY (BY (BY (sk N) ?_) ?_) ?_) ?_<;>(intro n;simp only[BC];exact⟨Ku,Ku⟩)
   .simp only[BC];exact M
   .refine Bd (Bd (Bd (Bd (si S) ?_) ?_) ?_) ?_;.intro n J;have:=abf A J;simp only[u,ea];omega
    .intro n J;have:=Jb A J;simp only[u,ea];omega
    .intro n J;cases F:K.le b d a c;.rw[F]at J;cases J
     rw[F]at J;cases J;have:=eP A F;simp only[u,e0];omega
    intro n J;cases F:K.le b (d+1) a c;.rw[F]at J;cases J
    rw[F]at J;cases J;have:=eP A F;simp only[u,e0];omega
   show fU _ _ _ _ _=O (ak.sc (.int .i64 ((ρ2 K.nx).i+0)));grind
  .split at h
   .rename_i F;rw[bq,bq,bq]at F;obtain⟨⟨⟨h1,h2⟩,Y⟩,Z⟩:=F;have h1:=cI h1;subst h1;have h2:=AM h2;have Y:=eP A Y;have Z:=eP A Z;rw[hz]at Y Z;cases h;refine ju N (gL ha) A ?_;show fU P .sub t _ _=O _;rw[DJ];show O _=_;rw[hz,Qe (k:=.u64) (by show(0:U)<=_;omega) (by show _<=(18446744073709551615:U);omega)]
    congr 3;omega
   cases h
  cases h
 ·
  split at h;.rename_i h0;rw[bq,bq,bq]at h0;obtain⟨⟨⟨ea,eb⟩,h1⟩,h2⟩:=h0;have ea:=cI ea;have eb:=cI eb;have h1:=AM h1;have h2:=AM h2;subst ea;subst eb;cases h;refine ju N (gL ha) A ?_;have e:=ak2 (P:=P) (t:=t) (k:=k) (a:=(ρ 0).i+c) (b:=(ρ 0).i+d) aa;show fU P .rem t _ _=O (ak.sc (.int k ((ρ 0).i+c.tmod d)));rw[e,hz,zF,zF,zF]
  split at h
  .rename_i F;rw[bq]at F;have h1:=eP A F.1;have h2:=eP A F.2;rw[hz]at h1 h2;cases h;have e:=ak2 (P:=P) (t:=t) (k:=k) (a:=(ρ a).i+c) (b:=(ρ b).i+d) aa;have r0:0<=((ρ a).i+c).tmod ((ρ b).i+d):=Int.tmod_nonneg _ aa;have r1:((ρ a).i+c).tmod ((ρ b).i+d)<(ρ b).i+d:=Int.tmod_lt_of_pos _ aa;have r2:((ρ a).i+c).tmod ((ρ b).i+d)<=(ρ a).i+c:=by rw[Int.tmod_eq_emod_of_nonneg aa];have e1:=Int.emod_add_mul_ediv ((ρ a).i+c) ((ρ b).i+d);have e2:=Int.mul_nonneg (aa:0<=(ρ b).i+d) (Int.ediv_nonneg (aa:0<=(ρ a).i+c) (aa:0<=(ρ b).i+d));omega
   let ρ2:=tY ρ K.nx (((ρ a).i+c).tmod ((ρ b).i+d))
   have u:(ρ2 K.nx).i=((ρ a).i+c).tmod ((ρ b).i+d):=yR;have D:dj K.nx ρ ρ2:=yL;have ea:ρ2 a=ρ a:=(D a ha).symm;have eb:ρ2 b=ρ b:=(D b ae).symm;have e0:(ρ2 0).i=0:=by rw[<-D 0 N.z];exact hz
   have S:bV tb ρ2 K:=A.qI N D;have M:K.nx<K.new.nx:=kF _;have ab:a<K.new.nx:=jc ha;have ah:b<K.new.nx:=jc ae;refine rU (ρ':=ρ2) (mS _) (jJ (jJ (jJ (sk N) (AZ _) M) M ah) M ab) (gL M) D (kg (kg (kg (si S) ?_) ?_) ?_) ?_;.rw[u,e0];omega
   .rw[u,eb];omega
   .rw[u,ea];omega
   show fU _ _ _ _ _=O (ak.sc (.int k ((ρ2 K.nx).i+0)));rw[e,u];congr 3;omega
  cases h
 ·
  split at h
  .rename_i F;rw[bq,bq,bq]at F;obtain⟨⟨⟨h1,h2⟩,Y⟩,Z⟩:=F;have h1:=eP A h1;have h2:=eP A h2;have Y:=cI Y;subst Y;have Z:=AM Z;rw[hz]at h1 h2;cases h;have q0:0<=((ρ a).i+c).tdiv ((ρ 0).i+d):=Int.tdiv_nonneg aa aa;have q1:((ρ a).i+c).tdiv ((ρ 0).i+d)<=(ρ a).i+c:=Int.tdiv_le_self _ aa;have e:=aFI (P:=P) (t:=t) (k:=k) (a:=(ρ a).i+c) (b:=(ρ 0).i+d) aa (apQ (axn k) q0) aa
   let ρ2:=tY ρ K.nx (((ρ a).i+c).tdiv ((ρ 0).i+d))
   have u:(ρ2 K.nx).i=((ρ a).i+c).tdiv ((ρ 0).i+d):=yR;have D:dj K.nx ρ ρ2:=yL;have ea:ρ2 a=ρ a:=(D a ha).symm;have e0:(ρ2 0).i=0:=by rw[<-D 0 N.z];exact hz
   have S:bV tb ρ2 K:=A.qI N D;have M:K.nx<K.new.nx:=kF _;have ab:a<K.new.nx:=jc ha;have ai:0<K.new.nx:=AZ _;refine rU (ρ':=ρ2) ?_ (BY (jJ (jJ (sk N) ai M) M ab) λ n=>⟨M,ai⟩) (gL ?_) D (Bd (kg (kg (si S) ?_) ?_) ?_) ?_;.rw[BC];exact mS _
   .rw[BC];exact M
   .rw[u,e0];omega
   .rw[u,ea];omega
   .intro n J;have:=Jb A J;simp only[u,e0];rw[aKj aa,hz];have:((ρ a).i+c)/(0+d)<=(n+c)/d:=by rw[zF];exact Int.ediv_le_ediv (by omega) (by omega)
    omega
   show fU _ _ _ _ _=O (ak.sc (.int k ((ρ2 K.nx).i+0)));rw[e,u];congr 3;omega
  cases h
 ·
  split at h
  .rename_i F;rw[bq,bq,bq,bq]at F;obtain⟨⟨⟨⟨h1,h2⟩,Y⟩,Z⟩,h5⟩:=F;have h1:=cI h1;have h2:=jL h2;have Y:=jL Y;subst h1 h2 Y;have Z:=eP A Z;have h5:=eP A h5;rw[hz]at Z h5;split at h
   .rename_i x y hs;have hm:ik.sum a x y 0∈K.fs:=by obtain⟨f,hf,hs⟩:=Ez hs;grind[ab4]
    have af:=N.fs _ hm;have am:(ρ a).i=(ρ x).i+(ρ y).i+0:=A.fs _ hm;have e:=aDW (P:=P) (t:=t) (k:=k) (a:=(ρ a).i+0)
    let ρ2:=tY ρ K.nx (((ρ a).i+0)/2)
    have u:(ρ2 K.nx).i=((ρ a).i+0)/2:=yR;have D:dj K.nx ρ ρ2:=yL;have ea:ρ2 a=ρ a:=(D a ha).symm;have ex:ρ2 x=ρ x:=(D x af.2.1).symm;have ey:ρ2 y=ρ y:=(D y af.2.2).symm;have S:bV tb ρ2 K:=A.qI N D;have M:K.nx<K.new.nx:=kF _;have ab:a<K.new.nx:=jc ha;have al:x<K.new.nx:=jc af.2.1;have aj:y<K.new.nx:=jc af.2.2;have fin:yh P .shr t (.sc (.int k ((ρ a).i+0))) (.sc (.int k ((ρ 0).i+1))) ρ2 (.int k K.nx 0):=by show fU _ _ _ _ _=O (ak.sc (.int k ((ρ2 K.nx).i+0)));grind
    split at h
    .rename_i ad;cases h;have ad:=eP A ad;refine rU (ρ':=ρ2) (mS _) (jJ (jJ (jJ (sk N) al M) M aj) M ab) (gL M) D (kg (kg (kg (si S) ?_) ?_) ?_) fin;.rw[u,ex];omega
     .rw[u,ey];omega
     rw[u,ea];omega
    split at h
    .rename_i ad;cases h;have ad:=eP A ad;refine rU (ρ':=ρ2) (mS _) (jJ (jJ (jJ (sk N) al M) M aj) M ab) (gL M) D (kg (kg (kg (si S) ?_) ?_) ?_) fin;.rw[u,ex];omega
     .rw[u,ey];omega
     rw[u,ea];omega
    cases h
   cases h
  cases h
 .cases h
theorem wrap64(n:U):0<=H5 .u64 n/\H5 .u64 n<=18446744073709551615:=by have e:H5 .u64 n=n%18446744073709551616:=rfl;grind
def Ps(Z:FX tb)(J:cS K)(M:bV tb ρ K){id:R}{c z:U}(S:a<K.nx)(A:b<K.nx)(h1:100<=id)(h2:id<=103)(hr:Ih id ((ρ a).i+c) ((ρ b).i+d)=pure (.int .u64 z))(hz:0<=z/\z<=18446744073709551615)
 (Y:fU P op t (.sc (.int .u64 ((ρ a).i+c))) (.sc (.int k' ((ρ b).i+d)))=O (.sc (.int .u64 z))):
 il tb ρ K bD (yh P op t (.sc (.int .u64 ((ρ a).i+c))) (.sc (.int k' ((ρ b).i+d)))) [(.int .u64 K.nx 0,((K.new.add 0 0 K.nx 0).add K.nx 0 0 18446744073709551615).fact (.pr id [.i a c,.i b d,.i K.nx 0]))]:=by
 let ρ2:=tY ρ K.nx z
 have u:(ρ2 _).i=z:=yR;have D:dj _ ρ ρ2:=yL;have e0:(ρ2 0).i=0:=by rw[<-D 0 J.z,M.z];rfl
 have F:K.nx<K.new.nx:=kF _;have y:0<K.new.nx:=AZ _;refine rU (mS _) (vk (jJ (jJ (sk J) y F) F y) ?_) (gL F) D (vJ (kg (kg (si (M.qI J D)) ?_) ?_) ?_) ?_
 .intro e N;simp at N;rcases N with rfl|rfl|rfl
  .exact jc S
  .exact jc A
  exact F
 .omega
 .omega
 .show tb.pr id [⟨(ρ2 a).i+c,W,[],[]⟩,⟨(ρ2 b).i+d,W,[],[]⟩,⟨(ρ2 _).i+0,W,[],[]⟩];rw[(D a S).symm,(D b A).symm,u,fJ];exact Z id _ _ z h1 h2 hr
 .show fU _ _ _ _ _=O (ak.sc _);rw[Y,u,fJ]
def aB8(F:FX tb)(A:cS K)(y:bV tb ρ K){c:U}(D:a<K.nx)(u:b<K.nx)(h:X9 K op k a c b d=O l):
 il tb ρ K bD (yh P op t (.sc (.int k ((ρ a).i+c))) (.sc (.int k ((ρ b).i+d)))) l:=by
 unfold X9 at h;split at h
 .rename_i id J;cases h;cases op<;>cases J;.exact Ps F A y D u aa aa Q (wrap64 _) Q
  .exact Ps F A y D u aa aa Q (wrap64 _) Q
  exact Ps F A y D u aa aa Q (wrap64 _) Q
 .exact ayt A y D u h
theorem aGM(F:FX tb)(J:cS K)(u:bV tb ρ K){c:U}(M:a<K.nx)(y:b<K.nx)(h:abr K k a c b d=O l):
 il tb ρ K bD (yh P .shl t (.sc (.int k ((ρ a).i+c))) (.sc (.int k' ((ρ b).i+d)))) l:=by
 unfold abr at h;split at h
 .split at h<;>cases h;rename_i A;have A:=eP u A;have N:(ρ 0).i=0:=by rw[u.z];rfl
  have e:∀D,adx .shl .u64 ((ρ a).i+c) D ((ρ b).i+d)=pure (.int .u64 (H5 .u64 (((ρ a).i+c)*2^(min ((ρ b).i+d).toNat IntKind.u64.bits)))):=by grind[adx]
  refine Ps F J u M y aa aa (e .i64) (wrap64 _) ?_;show(match uB (adx .shl .u64 _ k' _)with|some r=>lZ r|none=>X)=_;rw[e k'];rfl
 .cases h
theorem azd(F:FX tb)(A:cS K)(y:bV tb ρ K){c:U}(D:a<K.nx)(u:b<K.nx)(h:V2 K op k a c b d=O l):
 il tb ρ K bD (yh P op t (.sc (.int k ((ρ a).i+c))) (.sc (.int k ((ρ b).i+d)))) l:=by
 have fin:∀{x} {l},fU P op t (.sc (.int k ((ρ a).i+c))) (.sc (.int k ((ρ b).i+d)))=O (.sc (.bool x))->il tb ρ K bD (λ ρ' v=>ev ρ' v=.sc (.bool x)) l->il tb ρ K bD (yh P op t (.sc (.int k ((ρ a).i+c))) (.sc (.int k ((ρ b).i+d)))) l:=by grind
 unfold V2 at h;split at h;.cases h;exact fin akg (HH A y D u).bL
 .cases h;exact fin ahX (HH A y u D).bL
 .cases h;refine fin (alF.trans ?_) (HH A y u D).D8.bL;grind[decide]
 .cases h;refine fin (alC.trans ?_) (HH A y D u).D8.bL;grind[decide]
 .cases h;exact fin OU (ajF A y D u).bL
 .cases h;exact fin R3 (ajF A y D u).D8.bL
 .exact aB8 F A y D u h
def aqF{a b:jo}(h:op=.eql\/op=.neq):∃v,fU P op t (.sc (.str a)) (.sc (.str b))=O (.sc (.bool v)):=by
 rcases h with rfl|rfl
 .exact⟨_,Q⟩
 exact⟨_,Q⟩
def ajr(h:v.isStr=V):∃s,ev ρ v=.sc (.str s):=by
 cases v with
 |ss x=>exact⟨_,Q⟩
 |sc a=>cases a<;>first|exact⟨_,rfl⟩|cases h
 |_=>cases h
def SP(ρ:bC)(x:R)(b:mi):bC:=λ y=>if y=x then⟨0,b,[],[]⟩else ρ y
def QV{x:R}{n:mi}:dj x ρ (SP ρ x n):=λ y u=>by show _=if y=x then _ else _;rw[aR (by omega)]
def ao7{x:R}{n:mi}:(SP ρ x n x).b=n:=by show(if x=x then _ else _:SV).b=_;rw[aY Q]
def toList_mk(a:jo):(ByteArray.mk ⟨a⟩).toList=a:=by first|simp
def aBF{a b:jo}:fU P .eql t (.sc (.str a)) (.sc (.str b))=O (.sc (.bool (a==b))):=by show O _=_;rw[toList_mk,toList_mk]
def awN{a b:jo}:fU P .neq t (.sc (.str a)) (.sc (.str b))=O (.sc (.bool (!(a==b)))):=by show O _=_;rw[toList_mk,toList_mk]
theorem KS(F:FX tb)(u:cS K)(A:bV tb ρ K){x:XV}(hx:bD K.nx x)(D:bD K.nx y)(h:IW K op x y=O l):
 il tb ρ K bD (yh P op t (ev ρ x) (ev ρ y)) l:=by
 unfold IW at h;split at h
 .split at h;.exact aGM F u A hx.int D.int h
  split at h;.rename_i e;subst e;exact azd F u A hx.int D.int h
  cases h
 .split at h;.cases h;exact ju u ua A (aBF)
  .cases h;exact ju u ua A (awN)
  cases h
 .split at h<;>try cases h
  rename_i e;rw[bq]at e;obtain⟨s⟩:=ajr (ρ:=ρ) e.1;obtain⟨J⟩:=ajr (ρ:=ρ) e.2;have S:op=.eql\/op=.neq->il tb ρ K bD (yh P op t (.sc (.str s)) (.sc (.str J))) [(.bs K.nx,K.new)]:=by intro N;obtain⟨v,M⟩:=aqF N;refine rU (ρ':=SP ρ _ v) (mS _) (sk u) (Hv (kF _)) QV (si (A.qI u QV)) ?_;show fU _ _ _ _ _=O (ak.sc _);exact ao7▸M
  unfold aoT at h;grind
def Rw(A:cS K)(u:bV tb ρ K){x:R}(hx:x<K.nx):il tb ρ K DB (λ _ b=>b=(ρ x).b) (I2 K x):=by
 unfold I2;split
 .rename_i b y;obtain⟨f,y,h⟩:=Ez y;split at h;.split at h<;>cases h;rename_i e;have:=u.fs _ y;rw[cI e]at this;exact ju A sp u (this).symm
  cases h
 refine N7 Q Q (vk A hx) (vk A hx) sp sp ?_;cases e:(ρ x).b;.exact .inr ⟨vJ u e,Q⟩
 exact .inl ⟨vJ u e,Q⟩
def ahe(y:cS K)(u:bV tb ρ K){l:xw}(A:bD K.nx v)(h:RY K v=O l):∃b,ev ρ v=.sc (.bool b)/\il tb ρ K DB (λ _ x=>x=b) l:=by
 unfold RY at h;split at h;.cases h;exact⟨_,Q,ju y sp u Q⟩
 .cases h;exact⟨_,Q,Rw y u A.bs⟩
 cases h
def ay5(y:cS K)(u:bV tb ρ K){op:UnOp}(A:bD K.nx v)(h:YU K op v=O l):il tb ρ K bD (λ ρ' r=>Fp op (ev ρ v)=O (ev ρ' r)) l:=by
 unfold YU at h;split at h;.split at h<;>cases h;exact ju y ua u Q
 .split at h<;>cases h;exact(Rw y u A.bs).map (λ x=>XV.sc (.bool _)) (λ _ _ _=>ua) λ ρ' a D=>by subst D;rfl
 cases h
theorem aEj(u:bV tb ρ K){w:XV}(A:bD K.nx v)(h:ab9 K k v=O w):(match ev ρ v with|.sc (.int _ n)=>O (ak.sc (.int k (k.wrap n)))|_=>X)=O (ev ρ w)/\bD K.nx w:=by
 unfold ab9 at h;split at h
 .split at h<;>cases h;rename_i y;rw[bq]at y;have h1:=eP u y.1;have h2:=eP u y.2;have D:(ρ 0).i=0:=by rw[u.z];rfl
  refine⟨?_,gL A.int⟩;show O (ak.sc _)=O (.sc _);grind[Qe]
 cases h
def aJG(N:cS K)(M:bV tb ρ K){x:XV}(hx:bD K.nx x)(D:bD K.nx y)(h:Ww K x y=O l):il tb ρ K bD (λ ρ' r=>La (ev ρ x) (ev ρ y)=O (ev ρ' r)) l:=by
 unfold Ww at h;split at h<;>cases h;rename_i k a c k' b d;obtain⟨h1,r,F,ρ',h2,S,P⟩:=HH N M D.int hx.int;refine⟨λ q J=>?_,_,lO.2 ⟨r,F,Q⟩,ρ',h2,S,?_⟩
 .obtain⟨p,A,rfl⟩:=lO.1 J;refine⟨(h1 p A).1,(h1 p A).2.1,?_⟩;split;.exact(gL D.int).mono (h1 p A).1
  exact(gL hx.int).mono (h1 p A).1
 show O _=O _;rw[P];by_cases u:(ρ b).i+d<(ρ a).i+c;.rw[aY u,jR u];show _=O (ak.sc _);rw[h2 b D.int]
 rw[aR u,my u];show _=O (ak.sc _);rw[h2 a hx.int]
def aqo(N:cS K)(M:bV tb ρ K){x:XV}(hx:bD K.nx x)(D:bD K.nx y)(h:ab3 K x y=O l):il tb ρ K bD (λ ρ' r=>Fx (ev ρ x) (ev ρ y)=O (ev ρ' r)) l:=by
 unfold ab3 at h;split at h<;>cases h;rename_i k a c k' b d;obtain⟨h1,r,F,ρ',h2,S,P⟩:=HH N M hx.int D.int;refine⟨λ q J=>?_,_,lO.2 ⟨r,F,Q⟩,ρ',h2,S,?_⟩
 .obtain⟨p,A,rfl⟩:=lO.1 J;refine⟨(h1 p A).1,(h1 p A).2.1,?_⟩;split;.exact(gL D.int).mono (h1 p A).1
  exact(gL hx.int).mono (h1 p A).1
 show O _=O _;rw[P];by_cases u:(ρ a).i+c<(ρ b).i+d;.rw[aY u,jR u];show _=O (ak.sc _);rw[h2 b D.int]
 rw[aR u,my u];show _=O (ak.sc _);rw[h2 a hx.int]
end
section
variable{σ τ:Sub}
variable{ρ ρ':bC}{tb:iP}{C:fS}
def pull(ρ:bC)(σ:Sub):bC:=aX (σ.map (ij ρ))
def acD(σ:Sub)(x:R):pull ρ σ x=match σ[x]?with|some e=>ij ρ e|none=>SV.z:=by unfold pull aX;rw[UO,mu];cases σ[x]? <;>rfl
def zV(h0:ρ 0=SV.z)(σ:Sub)(x:R):(ρ (σ.num x).1).i+(σ.num x).2=(pull ρ σ x).i:=by
 rw[acD];unfold Sub.num;cases σ[x]?;.rw[h0];rfl
 rename_i e
 cases e with
  |i y d=>rfl
  |s y=>rw[fJ];rfl
def GA(h0:ρ 0=SV.z)(σ:Sub)(x:R):(ρ (σ.sym x)).l=(pull ρ σ x).l/\(ρ (σ.sym x)).b=(pull ρ σ x).b/\(ρ (σ.sym x)).s=(pull ρ σ x).s:=by
 rw[acD];unfold Sub.sym;cases σ[x]?;.exact h0▸⟨Q,Q,Q⟩
 rename_i e
 cases e with
  |i y d=>rw[h0];exact⟨Q,Q,Q⟩
  |s y=>exact⟨Q,Q,Q⟩
mutual
theorem MU(h0:ρ 0=SV.z)(σ:Sub):∀v:XV,ev ρ (zh σ v)=ev (pull ρ σ) v
 |.sc _=>rfl
 |.int k x c=>by show ak.sc (.int k ((ρ (σ.num x).1).i+((σ.num x).2+c)))=.sc (.int k ((pull ρ σ x).i+c));rw[<-zV h0,UT]
 |.bs x=>by show ak.sc (.bool _)=.sc (.bool _);rw[(GA h0 σ x).2.1]
 |.ss x=>by show ak.sc (.str _)=.sc (.str _);rw[(GA h0 σ x).2.2]
 |.sl x o=>by show ak.sl _ _=.sl _ _;rw[(GA h0 σ x).1]
 |.sx es o=>by show ak.sl (fH ρ (yq σ es)) o=.sl (fH (pull ρ σ) es) o;rw[amJ h0 σ es]
 |.ptr _ _ _=>rfl
 |.rp cs off=>by show ak.rp (aT ρ (kY σ cs)) off=.rp (aT (pull ρ σ) cs) off;rw[Ce h0 σ cs]
 |.ms _ _ _ _=>rfl
 |.fn f cap=>by show ak.fn f (aT ρ (kY σ cap))=.fn f (aT (pull ρ σ) cap);rw[Ce h0 σ cap]
 |.agg cs=>by show ak.agg (aT ρ (kY σ cs))=.agg (aT (pull ρ σ) cs);rw[Ce h0 σ cs]
 |.bp vs=>by show ak.bp (aT ρ (kY σ vs))=.bp (aT (pull ρ σ) vs);rw[Ce h0 σ vs]
 |.un=>rfl
theorem Ce(h0:ρ 0=SV.z)(σ:Sub):∀v:B XV,aT ρ (kY σ v)=aT (pull ρ σ) v
 |[]=>rfl
 |v::l=>by show ev ρ (zh σ v)::aT ρ (kY σ l)=_;rw[MU h0 σ v,Ce h0 σ l];rfl
theorem amJ(h0:ρ 0=SV.z)(σ:Sub):∀v:B (B XV),fH ρ (yq σ v)=fH (pull ρ σ) v
 |[]=>rfl
 |v::l=>by show aT ρ (kY σ v)::fH ρ (yq σ l)=_;rw[Ce h0 σ v,amJ h0 σ l];rfl
end
def Lg(h0:ρ 0=SV.z)(σ:Sub)(p:zj):cM ρ (yK σ p)=cM (pull ρ σ) p:=by show(ρ (σ.num _).1).i+((σ.num _).2+p.2)=(pull ρ σ _).i+p.2;rw[<-zV h0,UT]
def as3(h0:ρ 0=SV.z)(σ:Sub)(e:SE):ij ρ (ZM σ e)=ij (pull ρ σ) e:=by
 cases e with
 |i x c=>
  show SV.mk _ _ _ _=SV.mk _ _ _ _;rw[<-zV h0,UT]
 |s x=>
  show ij ρ (match σ[x]?with|some e=>e|none=>.i 0 0)=pull ρ σ x;rw[acD];cases σ[x]?;.show SV.mk _ _ _ _=_;rw[h0];rfl
  rename_i e;rfl
theorem Yk(h0:ρ 0=SV.z)(σ:Sub)(f:ik):cL tb ρ (Jn σ f)↔cL tb (pull ρ σ) f:=by
 cases f with
 |le a b c=>
  show(ρ _).i<=(ρ _).i+((σ.num b).2+c-(σ.num a).2)↔(pull ρ σ a).i<=(pull ρ σ b).i+c;rw[<-zV h0,<-zV h0];omega
 |sl x n c nm bs=>
  show(((ρ _).l.length)=(ρ _).i+((σ.num n).2+c)/\∀(i:R) e,(ρ _).l[i]? =O e->de tb nm _ i e)↔_;rw[(GA h0 σ x).1,lP,show(cM ρ∘yK σ)=cM _ from funext λ p=>Lg h0 σ p,<-UT,zV h0];exact Iff.rfl
 |str x s=>show(ρ _).s∈s↔_;rw[(GA h0 σ x).2.2];exact Iff.rfl
 |bb x b=>show(ρ _).b=b↔_;rw[(GA h0 σ x).2.1];exact Iff.rfl
 |el x i c cells=>
  show(∃j:R,(ρ _).i+((σ.num i).2+c)=j/\(ρ _).l[j]? =O _)↔_;rw[(GA h0 σ x).1,<-UT,zV h0,Ce h0];exact Iff.rfl
 |sum z a b c=>
  show(ρ _).i=(ρ _).i+(ρ _).i+((σ.num a).2+(σ.num b).2+c-(σ.num z).2)↔(pull ρ σ z).i=(pull ρ σ a).i+(pull ρ σ b).i+c;rw[<-zV h0,<-zV h0,<-zV h0];omega
 |pr k l=>
  show tb.pr k _↔tb.pr k _;rw[lP,show(l.map (ij ρ∘ZM σ))=l.map _ from mH λ e _=>as3 h0 σ e]
def iS(n:R)(σ:Sub):Prop:=∀e∈σ,match e with|.i y _=>y<n|.s y=>y<n
def iS.num(h:iS n σ)(u:0<n)(x:R):(σ.num x).1<n:=by
 unfold Sub.num;cases e:σ[x]?;.exact u
 rename_i s;have:=h s (iD e);cases s<;>exact this
def iS.sym(h:iS n σ)(u:0<n)(x:R):σ.sym x<n:=by
 unfold Sub.sym;cases e:σ[x]?;.exact u
 rename_i s;have:=h s (iD e);cases s with
 |i y d=>exact u
 |s y=>exact this
def iS.pull(h:iS n σ)(u:dj n ρ ρ'):pull ρ σ=pull ρ' σ:=by
 unfold Go.Abs.pull
 congr 1
 refine mH λ e A=>?_
 have:=h e A;cases e with
 |i y d=>show SV.mk _ _ _ _=SV.mk _ _ _ _;rw[u y this]
 |s y=>exact u y this
def iS.mono(h:iS n σ)(u:n<=m):iS m σ:=λ e A=>by
 have:=h e A;cases e with
 |i y d=>exact eU this u
 |s y=>exact eU this u
def iS.append(h:iS n σ)(u:iS n τ):iS n (σ++τ):=λ e he=>by
 rcases wa.1 he with he|he
 .exact h e he
 exact u e he
def iS.cons{s:SE}(h:match s with|.i y _=>y<n|.s y=>y<n)(u:iS n τ):iS n (s::τ):=λ e he=>by
 rcases cg.1 he with rfl|he
 .exact h
 exact u e he
def Ql(u:0<n)(y:dj n ρ ρ')(h:ρ 0=SV.z):ρ' 0=SV.z:=(y 0 u)▸h
def iS.Xqq(h:iS n σ)(y:0<n)(v:XV):∀ρ ρ':bC,ρ 0=SV.z->dj n ρ ρ'->ev ρ (zh σ v)=ev ρ' (zh σ v):=λ ρ ρ' h0 u=>by rw[MU h0,MU (Ql y u h0),h.pull u]
end
section
variable{E' E2:cX}{cs vs:dB}{p v:XV}{q:zj}
variable{ρ ρ':bC}{tb:iP}{C:fS}{K:XK}
def mW(ρ:bC):kt->SV
 |O (.int _ y d)=>⟨(ρ y).i+d,W,[],[]⟩
 |O (.sl y _)=>ρ y
 |O (.bs y)=>ρ y
 |O (.ss y)=>ρ y
 |O (.sx es _)=>⟨0,W,[],fH ρ es⟩
 |O (.sc (.bool b))=>⟨0,b,[],[]⟩
 |O (.sc (.str s))=>⟨0,W,s,[]⟩
 |_=>SV.z
def ft(ρ:bC)(E:cX):bC:=aX (E.map (mW ρ))
theorem iR{E:cX}{x:R}(h:E[x]? =O (O v)):ft ρ E x=mW ρ (O v):=by unfold ft aX;grind
def nJ(E E':cX):Prop:=E.length=E'.length/\∀(x:R) (v:XV),E[x]? =O (O v)->E'[x]? =O (O v)
def nJ.rfl{E:cX}:nJ E E:=⟨Eq.refl _,λ _ _ h=>h⟩
theorem nJ.trans{E:cX}(h:nJ E E')(u:nJ E' E2):nJ E E2:=⟨h.1.trans u.1,λ x v e=>u.2 x v (h.2 x v e)⟩
def gV(n:R)(E:cX):Prop:=∀(x:R) (v:XV),E[x]? =O (O v)->bD n v
theorem JA{E:cX}{x:R}(h:E[x]? =O X)(hE:gV n E)(A:bD n v):nJ E (E.set x (O v))/\gV n (E.set x (O v))/\(E.set x (O v))[x]? =O (O v):=by
 have u:x<E.length:=by grind
 refine⟨⟨(zB).symm,λ y w e=>?_⟩,λ y w e=>?_,by rw[apN u]⟩;.grind
 rw[apR]at e;split at e;.cases e;exact A
 exact hE y w e
theorem It{E:cX}{x:R}(h:put E x v=O E')(hE:gV n E)(u:bD n v):nJ E E'/\gV n E'/\E'[x]? =O (O v):=by grind[put,JA]
def MF{E:cX}{x:R}(h:Fc E x v y=O E')(hE:gV n E)(D:bD n v)(F:mW ρ (O v)=ρ y):nJ E E'/\gV n E'/\∀E2,nJ E' E2->ft ρ E2 x=ρ y:=by
 unfold Fc at h;split at h;.rename_i e;cases h;obtain⟨h1,h2,J⟩:=JA e hE D;exact⟨h1,h2,λ E2 u=>(iR (u.2 _ _ J)).trans F⟩
 .rename_i z o e;split at h<;>cases h;rename_i A;exact⟨.rfl,hE,λ E2 u=>by rw[iR (u.2 _ _ e),cI A];rfl⟩
 .rename_i z e;split at h<;>cases h;rename_i A;exact⟨.rfl,hE,λ E2 u=>by rw[iR (u.2 _ _ e),cI A];rfl⟩
 .rename_i z e;split at h<;>cases h;rename_i A;exact⟨.rfl,hE,λ E2 u=>by rw[iR (u.2 _ _ e),cI A];rfl⟩
 cases h
def Ny(u:bV tb ρ K){c:U}(h:K.eq a c b d=V):(ρ a).i+c=(ρ b).i+d:=by
 unfold XK.eq at h;rw[rP,bq,bq]at h;rcases h with⟨h1,h2⟩|⟨h1,h2⟩
 .rw[cI h1,jL h2]
 have:=eP u h1;have:=eP u h2;omega
theorem qH{c:U}{u:rL}(h:rh K y=O (n,c,nm,u)):ik.sl y n c nm u∈K.fs:=by obtain⟨f⟩:=Ez h;grind[ab4]
theorem akt{c:U}{cells:dB}(h:ZN K y i c=O cells):ik.el y i c cells∈K.fs:=by obtain⟨f⟩:=Ez h;grind[ab4]
theorem amy{l:qF}(h:strOf K y=O l):ik.str y l∈K.fs:=by obtain⟨f⟩:=Ez h;grind[ab4]
theorem akw{a b:au}(h:TH a b=V):a=b:=by unfold TH at h;grind
theorem bD.sx{es:xY}(h:bD n (.sx es o)):∀e∈es,fM n e:=by intro e y ρ ρ' u;have:=h ρ ρ' u;grind[ev,qS,aus]
theorem fM.mem(h:fM n vs)(y:v∈vs):bD n v:=by intro ρ ρ' u;have:=h ρ ρ' u;grind[gq,aus]
def fM.of(h:∀v∈vs,bD n v):fM n vs:=by intro ρ ρ' y;rw[gq,gq];exact mH λ v u=>h v u ρ ρ' y
theorem bD.agg(h:bD n (.agg cs)):fM n cs:=by intro ρ ρ' u;have:=h ρ ρ' u;grind[ev]
theorem bD.bp(h:bD n (.bp cs)):fM n cs:=by intro ρ ρ' u;have:=h ρ ρ' u;grind[ev]
theorem anG(h:bD n v):bD n (qK v):=λ ρ ρ' u=>by rw[<-vS,<-vS,h ρ ρ' u]
abbrev qg(tb:iP)(ρ:bC)(n:R)(E E':cX)(p:bC->Prop):Prop:=nJ E E'/\gV n E'/\∀E2,nJ E' E2->p (ft ρ E2)
theorem ao6(P:bV tb ρ K){E:cX}(hE:gV K.nx E)(D:bD K.nx v)(h:RL K p v E=O E'):qg tb ρ K.nx E E' λ r=>ev r p=ev ρ v:=by
 unfold RL at h;split at h
 ·
  rename_i k x c k' y d;split at h
  .rename_i e;subst e;split at h
   .rename_i e;cases h;obtain⟨h1,h2,A⟩:=JA e hE (gL D.int);refine⟨h1,h2,λ E2 u=>?_⟩;show ak.sc _=.sc _;rw[iR (u.2 _ _ A)];show ak.sc (.int k ((ρ y).i+(d-c)+c))=_
    congr 2;omega
   .rename_i k2 z e hx;split at h
    .rename_i heq;cases h;refine⟨.rfl,hE,λ E2 u=>?_⟩;have:=Ny P heq;show ak.sc _=.sc _;rw[iR (u.2 _ _ hx)];show ak.sc (.int k ((ρ z).i+e+c))=_
     congr 2;omega
    cases h
   cases h
  cases h
 .obtain⟨h1,h2,A⟩:=MF (ρ:=ρ) h hE (Hv D.bs) Q;exact⟨h1,h2,λ E2 u=>by show ak.sc _=_;rw[A E2 u];rfl⟩
 .obtain⟨h1,h2,A⟩:=It h hE ua;exact⟨h1,h2,λ E2 u=>by show ak.sc _=_;rw[iR (u.2 _ _ A)];rfl⟩
 .obtain⟨h1,h2,A⟩:=MF (ρ:=ρ) h hE (Qf D.ss) Q;exact⟨h1,h2,λ E2 u=>by show ak.sc _=_;rw[A E2 u];rfl⟩
 .obtain⟨h1,h2,A⟩:=It h hE ua;exact⟨h1,h2,λ E2 u=>by show ak.sc _=_;rw[iR (u.2 _ _ A)];rfl⟩
 .rename_i x o y M;split at h;.rename_i e;subst e;obtain⟨h1,h2,A⟩:=MF (ρ:=ρ) h hE (tZ D.sl) Q;exact⟨h1,h2,λ E2 u=>by show ak.sl (ft ρ E2 x).l o=_;rw[A E2 u];rfl⟩
  cases h
 .rename_i x o es M;split at h
  .rename_i e;subst e;obtain⟨h1,h2,A⟩:=It h hE (λ ρ ρ' ha=>by have:=D ρ ρ' ha;grind[ev])
   exact⟨h1,h2,λ E2 u=>by show ak.sl (ft ρ E2 x).l o=_;rw[iR (u.2 _ _ A)];rfl⟩
  cases h
 .split at h;.rename_i e;cases h;rw[akw e];exact⟨.rfl,hE,λ _ _=>rfl⟩
  cases h
 .split at h;.rename_i e;cases h;subst e;exact⟨.rfl,hE,λ _ _=>rfl⟩
  cases h
 .rename_i x o y d M;split at h;.rename_i e;subst e;obtain⟨h1,h2,A⟩:=It h hE ((D.sx _ (cJ.2 Q)).mem (cJ.2 Q));refine⟨h1,h2,λ E2 u=>?_⟩;show ak.sl [[.sc _]] _=.sl [[.sc _]] _;rw[iR (u.2 _ _ A)];show ak.sl [[.sc (.int .i64 ((ρ y).i+d+0))]] _=_;rw[fJ]
  cases h
 .rename_i x Z o y d J d' M;split at h
  .rename_i e;subst e;split at h;.rename_i E1 F;obtain⟨h1,h2,A⟩:=It F hE ((D.sx [.int .i64 y d] aw).mem (cJ.2 Q));obtain⟨N,Y,S⟩:=It h h2 ((D.sx [.int .i64 J d'] aw).mem (cJ.2 Q));refine⟨h1.trans N,Y,λ E2 u=>?_⟩;show ak.sl [[.sc _],[.sc _]] _=.sl [[.sc _],[.sc _]] _;rw[iR (u.2 _ _ (N.2 _ _ A)),iR (u.2 _ _ S)];show ak.sl [[.sc (.int .i64 ((ρ y).i+d+0))],[.sc (.int .i64 ((ρ J).i+d'+0))]] _=_;rw[fJ,fJ]
   cases h
  cases h
 .rename_i x Z o y J M;split at h
  .rename_i e;subst e;split at h;.rename_i E1 F;obtain⟨h1,h2,A⟩:=MF (ρ:=ρ) F hE ((D.sx [.sl y X] aw).mem (cJ.2 Q)) Q;obtain⟨N,Y,S⟩:=MF (ρ:=ρ) h h2 ((D.sx [.sl J X] aw).mem (cJ.2 Q)) Q;refine⟨h1.trans N,Y,λ E2 u=>?_⟩;show ak.sl [[.sl (ft ρ E2 x).l X],[.sl (ft ρ E2 Z).l X]] _=.sl [[.sl (ρ y).l X],[.sl (ρ J).l X]] _;rw[A E2 (N.trans u),S E2 u]
   cases h
  cases h
 .rename_i o y M;split at h
  .rename_i e;subst e;split at h
   .rename_i n c nm ab hs;split at h<;>try cases h
    rename_i hl;refine⟨.rfl,hE,λ E2 u=>?_⟩;have h1:=P.fs _ (qH hs);have h2:=h1.1;have A:=eP P hl;have hz:(ρ 0).i=0:=by rw[P.z];rfl
    have:(ρ y).l=[]:=mF aa;show ak.sl [] o=.sl (ρ y).l o;rw[this]
   cases h
  cases h
 .split at h;.rename_i e;cases h;subst e;exact⟨.rfl,hE,λ _ _=>rfl⟩
  cases h
 .cases h;exact⟨.rfl,hE,λ _ _=>rfl⟩
 cases h
def E7(y:bV tb ρ K):∀{p v:dB} {E E':cX},gV K.nx E->fM K.nx v->BZ K p v E=O E'->qg tb ρ K.nx E E' λ r=>aT r p=aT ρ v
 |[],[],E,E',hE,u,h=>by cases h;exact⟨.rfl,hE,λ _ _=>rfl⟩
 |p::D,v::vs,E,E',hE,u,h=>by
  unfold BZ at h;split at h;.rename_i P h1;obtain⟨N,M,J⟩:=ao6 y hE (u.mem dJ) h1;obtain⟨b1,b2,b3⟩:=E7 y M (fM.of λ w F=>u.mem (cV _ F)) h;exact⟨N.trans b1,b2,λ E2 A=>by show ev _ p::aT _ D=ev ρ v::aT ρ vs;rw[J E2 (b1.trans A),b3 E2 A]⟩
  cases h
 |[],_::_,_,_,_,_,h=>by cases h
 |_::_,[],_,_,_,_,h=>bk
def anP(y:bV tb ρ K){E:cX}(hE:gV K.nx E)(u:bD K.nx v)(h:Qq K p v E=O E'):qg tb ρ K.nx E E' λ r=>ev r p=ev ρ v:=by
 unfold Qq at h;split at h;.obtain⟨J,F,D⟩:=E7 y hE u.agg h;exact⟨J,F,λ E2 A=>by show ak.agg _=.agg _;rw[D E2 A]⟩
 exact ao6 y hE u h
def anS(y:bV tb ρ K):∀{p v:dB} {E E':cX},gV K.nx E->fM K.nx v->P0 K p v E=O E'->qg tb ρ K.nx E E' λ r=>aT r p=aT ρ v
 |[],[],E,E',hE,u,h=>by cases h;exact⟨.rfl,hE,λ _ _=>rfl⟩
 |p::D,v::vs,E,E',hE,u,h=>by
  unfold P0 at h;split at h;.rename_i P h1;obtain⟨N,M,J⟩:=anP y hE (u.mem dJ) h1;obtain⟨b1,b2,b3⟩:=anS y M (fM.of λ w F=>u.mem (cV _ F)) h;exact⟨N.trans b1,b2,λ E2 A=>by show ev _ p::aT _ D=ev ρ v::aT ρ vs;rw[J E2 (b1.trans A),b3 E2 A]⟩
  cases h
 |[],_::_,_,_,_,_,h=>by cases h
 |_::_,[],_,_,_,_,h=>bk
def KV(y:bV tb ρ K){E:cX}(hE:gV K.nx E)(u:bD K.nx v)(h:GV K p v E=O E'):qg tb ρ K.nx E E' λ r=>ev r p=ev ρ v:=by
 unfold GV at h;split at h;.obtain⟨J,F,D⟩:=anS y hE u.bp h;exact⟨J,F,λ E2 A=>by show ak.bp _=.bp _;rw[D E2 A]⟩
 exact anP y hE u h
def alV(y:bV tb ρ K):∀{p v:dB} {E E':cX},gV K.nx E->fM K.nx v->RA K p v E=O E'->qg tb ρ K.nx E E' λ r=>aT r p=aT ρ v
 |[],[],E,E',hE,u,h=>by cases h;exact⟨.rfl,hE,λ _ _=>rfl⟩
 |p::D,v::vs,E,E',hE,u,h=>by
  unfold RA at h;split at h;.rename_i P h1;obtain⟨N,M,J⟩:=KV y hE (u.mem dJ) h1;obtain⟨b1,b2,b3⟩:=alV y M (fM.of λ w F=>u.mem (cV _ F)) h;exact⟨N.trans b1,b2,λ E2 A=>by show ev _ p::aT _ D=ev ρ v::aT ρ vs;rw[J E2 (b1.trans A),b3 E2 A]⟩
  cases h
 |[],_::_,_,_,_,_,h=>by cases h
 |_::_,[],_,_,_,_,h=>bk
theorem oO{E:cX}{x:R}(h:E.at x=O v):E[x]? =O (O v):=by grind[cX.at]
def zP{E:cX}{x:R}{c:U}(h:E.num x c=O q)(u:nJ E E2):(ft ρ E2 x).i+c=cM ρ q:=by unfold cX.num at h;split at h<;>cases h;rename_i k y d e;rw[iR (u.2 _ _ (oO e))];show(ρ y).i+d+c=(ρ y).i+(d+c);omega
def SM{E:cX}{x:R}{c:U}(hE:gV n E)(h:E.num x c=O q):q.1<n:=by unfold cX.num at h;split at h<;>cases h;rename_i k y d e;exact(hE _ _ (oO e)).int
def XZ{E:cX}(u:nJ E E2):∀{l q:rL},E.GC l=O q->l.map (cM (ft ρ E2))=q.map (cM ρ)
 |[],q,h=>by cases h;rfl
 |p::l,q,h=>by
  unfold cX.GC at h;split at h<;>cases h;rename_i a r h1 h2;rw[nA,XZ u h2]
  congr 1
  exact zP h1 u
def Qt{E:cX}(hE:gV n E):∀{l q:rL},E.GC l=O q->∀p∈q,p.1<n
 |[],q,h=>by cases h;intro p u;cases u
 |p::l,q,h=>by
  unfold cX.GC at h;split at h<;>cases h;rename_i a r h1 h2;intro p u;rcases cg.1 u with rfl|u
  .exact SM hE h1
  exact Qt hE h2 p u
theorem aeg(u:bV tb ρ K):∀{l q:rL},OJ K l q=V->l.map (cM ρ)=q.map (cM ρ)
 |[],[],h=>rfl
 |p::l,q::r,h=>by
  unfold OJ at h;rw[bq]at h;rw[nA,aeg u h.2]
  congr 1
  exact Ny u h.1
 |[],_::_,h=>by cases h
 |_::_,[],h=>bk
def FP(D:bV tb ρ K){E:cX}{c:U}(hE:gV K.nx E)(A:y<K.nx)(h:Cl K E n c y d=O E'):qg tb ρ K.nx E E' λ r=>(r n).i+c=(ρ y).i+d:=by
 unfold Cl at h;split at h;.rename_i e;cases h;obtain⟨h1,h2,F⟩:=JA e hE (gL A);refine⟨h1,h2,λ E2 u=>?_⟩;show(ft ρ E2 n).i+c=_;rw[iR (u.2 _ _ F)];show(ρ y).i+(d-c)+c=_;omega
 .rename_i k z e hx;split at h<;>cases h;rename_i heq;refine⟨.rfl,hE,λ E2 u=>?_⟩;have:=Ny D heq;show(ft ρ E2 n).i+c=_;rw[iR (u.2 _ _ hx)];show(ρ z).i+e+c=_;omega
 cases h
def anE(F:bV tb ρ K)(Y:cS K){p v:SE}{E:cX}(hE:gV K.nx E)(J:yY K.nx v)(h:QX K p v E=O E'):qg tb ρ K.nx E E' λ r=>ij r p=ij ρ v:=by
 unfold QX at h;split at h;.obtain⟨S,P,N⟩:=FP F hE J h;exact⟨S,P,λ E2 A=>by show SV.mk _ _ _ _=SV.mk _ _ _ _;rw[N E2 A]⟩
 .cases h
 .rename_i x y;have same:∀{z} {w},E[x]? =O (O w)->mW ρ (O w)=ρ z->gr y z=V->qg tb ρ K.nx E E λ r=>ij r (.s x)=ij ρ (.s y):=by intro z w hx M u;refine⟨.rfl,hE,λ E2 A=>?_⟩;show ft ρ E2 x=ρ y;rw[iR (A.2 _ _ hx),M,cI u]
  split at h;.rename_i e;cases h;obtain⟨h1,h2,D⟩:=JA e hE (tZ J);exact⟨h1,h2,λ E2 A=>by show ft ρ E2 x=ρ y;rw[iR (A.2 _ _ D)];rfl⟩
  .rename_i z o hx;split at h<;>cases h;rename_i u;exact same hx Q u
  .rename_i z hx;split at h<;>cases h;rename_i u;exact same hx Q u
  .rename_i z hx;split at h<;>cases h;rename_i u;exact same hx Q u
  .rename_i o hx;split at h<;>cases h;rename_i u;exact same hx (by rw[F.z];rfl) u
  .rename_i k z e hx;split at h<;>cases h;rename_i u;rw[bq,bq]at u;obtain⟨h1,h2,D⟩:=u;have h2:=cI h2;have D:=jL D;subst h2 D;exact same hx (by show SV.mk _ _ _ _=_;rw[F.z];rfl) h1
  cases h
 rename_i x y d;split at h;.rename_i e;cases h;obtain⟨h1,h2,D⟩:=JA e hE (gL J);exact⟨h1,h2,λ E2 A=>by show ft ρ E2 x=_;rw[iR (A.2 _ _ D)];rfl⟩
 .rename_i k z e hx;split at h<;>cases h;rename_i heq;refine⟨.rfl,hE,λ E2 A=>?_⟩;show ft ρ E2 x=_;rw[iR (A.2 _ _ hx)];show SV.mk _ _ _ _=SV.mk _ _ _ _;rw[Ny F heq]
 cases h
def acK(y:bV tb ρ K)(A:cS K):∀{p v:wZ} {E E':cX},gV K.nx E->(∀e∈v,yY K.nx e)->NI K p v E=O E'->qg tb ρ K.nx E E' λ r=>p.map (ij r)=v.map (ij ρ)
 |[],[],E,E',hE,u,h=>by cases h;exact⟨.rfl,hE,λ _ _=>rfl⟩
 |p::F,v::vs,E,E',hE,u,h=>by
  unfold NI at h;split at h;.rename_i S h1;obtain⟨P,N,M⟩:=anE y A hE (u v dJ) h1;obtain⟨b1,b2,b3⟩:=acK y A N (λ w J=>u w (cV _ J)) h;exact⟨P.trans b1,b2,λ E2 D=>by show ij _ p::F.map _=ij ρ v::vs.map _;rw[M E2 (b1.trans D),b3 E2 D]⟩
  cases h
 |[],_::_,_,_,_,_,h=>by cases h
 |_::_,[],_,_,_,_,h=>bk
def ajP(y:bV tb ρ K):∀{p v:rL} {E E':cX},gV K.nx E->(∀e∈v,e.1<K.nx)->Rh K p v E=O E'->qg tb ρ K.nx E E' λ r=>p.map (cM r)=v.map (cM ρ)
 |[],[],E,E',hE,u,h=>by cases h;exact⟨.rfl,hE,λ _ _=>rfl⟩
 |p::D,v::vs,E,E',hE,u,h=>by
  unfold Rh at h;split at h
  .rename_i P h1;obtain⟨N,M,J⟩:=FP y hE (u v dJ) h1;obtain⟨b1,b2,b3⟩:=ajP y M (λ w F=>u w (cV _ F)) h
   exact⟨N.trans b1,b2,λ E2 A=>by
    show cM _ p::D.map _=cM ρ v::vs.map _;rw[b3 E2 A]
    congr 1
    exact J E2 (b1.trans A)⟩
  cases h
 |[],_::_,_,_,_,_,h=>by cases h
 |_::_,[],_,_,_,_,h=>bk
def api(A:bV tb ρ K)(Y:cS K):∀{N:B Gl} {E E':cX},gV K.nx E->solve K N E=O E'->qg tb ρ K.nx E E' λ r=>∀p∈N,KD tb r p
 |[],E,E',hE,h=>by cases h;exact⟨.rfl,hE,nofun⟩
 |p::N,E,E',hE,h=>by
  have step:∀{E1},(qg tb ρ K.nx E E1 λ r=>KD tb r p)->solve K N E1=O E'->qg tb ρ K.nx E E' λ r=>∀q∈p::N,KD tb r q:=by
   intro E1 ⟨D,M,J⟩ h1;obtain⟨b1,b2,b3⟩:=api A Y M h1;refine⟨D.trans b1,b2,λ E2 u q Z=>?_⟩;rcases cg.1 Z with rfl|Z
   .exact J E2 (b1.trans u)
   exact b3 E2 u q Z
  unfold solve at h;split at h
  .rename_i x n c;split at h<;>try cases h
   rename_i y o hx;split at h<;>try cases h
   rename_i m d nm ac hs;split at h;.rename_i E1 h1;have hm:=qH hs;obtain⟨D,M,J⟩:=FP A hE (Y.fs _ hm).2.1 h1;refine step ⟨D,M,λ E2 u=>?_⟩ h;show((ft ρ E2 x).l.length)=(ft ρ E2 n).i+c;rw[iR ((D.trans u).2 _ _ (oO hx)),J E2 u];exact(A.fs _ hm).1
   cases h
  .rename_i a b c;split at h<;>try cases h
   rename_i x d y e h1 h2;split at h<;>try cases h
   rename_i aa;refine step ⟨.rfl,hE,λ E2 u=>?_⟩ h;have e1:=zP (ρ:=ρ) h1 u;have e2:=zP (ρ:=ρ) h2 u;have e3:=eP A aa;unfold cM at e1 e2;show(ft ρ E2 a).i<=(ft ρ E2 b).i+c;simp at e1 e2;omega
  .split at h<;>try cases h
   rename_i y o hx;obtain⟨f,P,h⟩:=Ez h;split at h<;>try cases h
   split at h<;>try cases h
   rename_i F;have F:=cI F;subst F;split at h<;>try cases h
   rename_i E1 h1;split at h<;>try cases h
   rename_i E2 h2;have S:=Y.fs _ P;obtain⟨D,M,J⟩:=FP A hE S.2.1 h1;obtain⟨b1,b2,b3⟩:=E7 A M S.2.2 h2;refine step ⟨D.trans b1,b2,λ E3 u=>?_⟩ h;obtain⟨q,q1,q2⟩:=A.fs _ P;refine⟨q,q1▸J E3 (b1.trans u),?_⟩;rw[iR (((D.trans b1).trans u).2 _ _ (oO hx)),b3 E3 u];exact q2
  .rename_i k l;obtain⟨f,P,h⟩:=Ez h;split at h<;>try cases h
   split at h<;>try cases h
   rename_i ab;split at h;.rename_i E1 h1;obtain⟨D,M,J⟩:=acK A Y hE (Y.fs _ P) h1;refine step ⟨D,M,λ E2 u=>?_⟩ h;show tb.pr k _;rw[J E2 u,cI ab];exact A.fs _ P
   cases h
  cases h
theorem avx(A:bV tb ρ K)(hb:cS K){p f:ik}{E:cX}(hE:gV K.nx E)(D:f.bd K.nx)(h:Xl K p f E=O E'):qg tb ρ K.nx E E' λ r=>cL tb r p->cL tb ρ f:=by
 unfold Xl at h;split at h
 .rename_i k l k' l';split at h;.rename_i J;obtain⟨Y,S,P⟩:=acK A hb hE D h;refine⟨Y,S,λ E2 F u=>?_⟩;have u:tb.pr k _:=u;rw[P E2 F,cI J]at u;exact u
  cases h
 .rename_i x n c nm ab y m d aa bs;split at h<;>try cases h
  split at h<;>try cases h
  rename_i E1 h1;split at h<;>try cases h
  rename_i E2 h2;obtain⟨Y,S,P⟩:=anE A hb hE (v:=.s y) D.1 h1;obtain⟨b1,b2,b3⟩:=FP A S D.2.1 h2;obtain⟨N,c2,c3⟩:=ajP A b2 D.2.2 h;refine⟨(Y.trans b1).trans N,c2,λ Z F u=>?_⟩;have e1:ft ρ Z x=ρ y:=P Z ((b1.trans N).trans F);obtain⟨M⟩:=u;refine⟨by rw[<-e1,<-b3 Z (N.trans F)];exact M,λ i e he=>?_⟩;grind[ab4]
 cases h
theorem F9(F:kh tb)(y:bV tb ρ K)(A:cS K){u:R}{f:ik}(M:f.bd K.nx)(h:BR tb K u f=V):cL tb ρ f:=by
 unfold BR at h;rw[Ey]at h;obtain⟨r,J,h⟩:=h;split at h<;>try cases h
 rename_i E h1;rw[tN]at h;obtain⟨E',h2⟩:=h
 have D:gV K.nx (O (XV.int .i64 0 0)::ef r.k X):=by
  intro x v hx;rcases cg.1 (iD hx)with hm|hm
  .cases hm;exact gL A.z
  grind
 obtain⟨S,P,N⟩:=avx y A D M h1;obtain⟨b1,b2,b3⟩:=api y A P h2;refine N E' b1 (F.2.1 _ r J _ ?_ (b3 E' .rfl));rw[iR ((S.trans b1).2 0 _ Q)];show SV.mk _ _ _ _=_;rw[y.z];rfl
theorem ame(F:bV tb ρ K)(J:cS K){E:cX}(hE:gV K.nx E)(u:nJ E E2):∀{l A:wZ},R1 E l=O A->l.map (ij (ft ρ E2))=A.map (ij ρ)/\∀e∈A,yY K.nx e
 |[],A,h=>by cases h;grind
 |e::l,A,h=>by
  unfold R1 at h;split at h<;>cases h;rename_i a r h1 h2;obtain⟨i1⟩:=ame F J hE u h2
  have one:ij (ft ρ E2) e=ij ρ a/\yY K.nx a:=by
   cases e with
   |i x c=>
    rw[acz]at h1;split at h1<;>cases h1;rename_i y d D;refine⟨?_,SM hE D⟩;show SV.mk _ _ _ _=SV.mk _ _ _ _;rw[zP D u];rfl
   |s x=>
    rw[acz]at h1;split at h1;.rename_i y o hx;cases h1;exact⟨by show ft ρ E2 x=ρ y;rw[iR (u.2 _ _ (oO hx))];rfl,(hE _ _ (oO hx)).sl⟩
    .rename_i y hx;cases h1;exact⟨by show ft ρ E2 x=ρ y;rw[iR (u.2 _ _ (oO hx))];rfl,(hE _ _ (oO hx)).bs⟩
    .rename_i y hx;cases h1;exact⟨by show ft ρ E2 x=ρ y;rw[iR (u.2 _ _ (oO hx))];rfl,(hE _ _ (oO hx)).ss⟩
    .rename_i k y d hx;cases h1;exact⟨by show ft ρ E2 x=_;rw[iR (u.2 _ _ (oO hx))];rfl,(hE _ _ (oO hx)).int⟩
    .rename_i o hx;cases h1;exact⟨by show ft ρ E2 x=ρ 0;rw[iR (u.2 _ _ (oO hx)),F.z];rfl,J.z⟩
    cases h1
  grind
def VM(u:bV tb ρ K):∀{l r:wZ},zX K l r=V->l.map (ij ρ)=r.map (ij ρ)
 |[],[],_=>rfl
 |.i y d::l,.i A D::r,h=>by
  rw[zX,bq]at h;rw[nA,VM u h.2]
  congr 1
  show SV.mk _ _ _ _=SV.mk _ _ _ _;rw[Ny u h.1]
 |.s y::l,.s A::r,h=>by rw[zX,bq]at h;rw[nA,nA,VM u h.2,cI h.1]
 |.i _ _::_,.s _::_,h=>by simp[zX]at h
 |.s _::_,.i _ _::_,h=>by simp[zX]at h
 |[],_::_,h=>by simp[zX]at h
 |_::_,[],h=>by simp[zX]at h
def aDY(u:bV tb ρ K){k:R}{l:wZ}(h:Ve K k l=V):tb.pr k (l.map (ij ρ)):=by
 unfold Ve at h;rw[Ey]at h;obtain⟨f,y,h⟩:=h;split at h;.rw[bq]at h;rw[cI h.1,<-VM u h.2];exact(u.fs _ y)
 cases h
end
end
end Go.Abs
