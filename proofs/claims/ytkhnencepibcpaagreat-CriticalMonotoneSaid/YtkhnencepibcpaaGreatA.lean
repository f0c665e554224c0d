/- The abstract machine: an evaluator over rows and its relation to the model. -/
import Derived.Test.YtkhnencepibcpaaGreatBase
import Derived.WalkKit
import Derived.Laws.StructEq
import Derived.Orders
import Derived.KernelRfl
set_option linter.all false
open Array renaming map->aAx,range->ahf
open Bool renaming rec->vi,false->W,true->V
open Go renaming Field->auN,binOp->aeQ,builtin->agm,Value->ye,asInt->ayN,asIntOf->adF,eqGuard->asZ,execOp->MO,goInt->ap3,grownCap->abl,invoke->ap1,isAgg->ap0,run_program->acC,run_underlying->j2,storeCells->apF,typeInfo->yn,zeroValue->adE
open Go.Builtin renaming append_->Bs,cap_->aw2,copy_->amA,firstCells->abM,lenOf->av6,len_->ac0,zeroCells->aaD
open Go.Instr renaming build->aqj,buildSlice->auM,fieldAt->axx,fill->arR,index->ald,indexAt->aiA,loadAt->aft,slice->ag2,sliceAt->acI,sliceBounds->asA,storeAt->axs,sureAddr->adI
open Go.Op renaming eqFields->ash,equal->aot,equalIn->aam
open Go.Oper renaming upon->aiE,wp->afh
open Go.Region renaming linearise->abg,wanted->aeo
open Go.Result renaming andThen_ok->sr
open Go.Sem renaming run_bind->nr,run_pure->BS
open Int renaming ofNat->gu
open List renaming map->azq,range->vv,rec->acB
open Nat renaming beq->gr,ble->th,div->ajQ,min->azE,mod->aow,mul_div_cancel->atU,mul_eq_zero->axp,sub->avP,succ->arb
open Option renaming rec->DT,none->X,some->O
open _root_ renaming Array->abB,Bool->mi,ByteArray->az5,Int->U,List->B,Nat->R,Option->gw,rfl->Q
namespace Go.Abs
noncomputable section
open Go
variable{Bqq at_ b hi lo n ng off sz v:R}{a:Act}{h:abB Obj}{i:TypeInfo}{o:Oper}{p q:ye}{r:mi}{α:Type}
section
variable{p:Prop}
theorem aa(h:p:=by omega):p:=h
theorem aH(h:p:=by kernel_rfl):p:=h
theorem aw(h:p:=by simp):p:=h
theorem bk(h:p:=by contradiction):p:=h
theorem cB(h:p:=by decide):p:=h
theorem bP(h:p:=by grind):p:=h
theorem gD(h:p:=by simp;omega):p:=h
theorem vZ(h:p:=by rfl):p:=h
abbrev aK:=B U
abbrev bG:=B R
abbrev aA:=Program
abbrev bA:=gw R
abbrev bj:=TypeId
abbrev lY:=gw (R×R)
abbrev fV:=gw Tmp
abbrev ck:=FuncId
abbrev dM:=B Oper
abbrev rK:=B (R×Operand)
abbrev rL:=B (R×U)
abbrev dV:=abB Oper
abbrev rm:=Exit->Act->World->Prop
abbrev yg:=B (R×R)
abbrev eN:=Operand
abbrev jo:=B UInt8
abbrev kl:=R->mi
abbrev ze:=gw (bG×bG)
abbrev vd:=R->gw bG
abbrev L8:=B (R×lY×R)
abbrev cG:=World
abbrev iu:=B mi
abbrev oh:=R->R
abbrev vH:=R->Prop
abbrev jQ:=B bG
abbrev lC:=B Tmp
abbrev GH:=B (R×R×U)
abbrev jT:=IntKind
abbrev kA:=abB ye
abbrev EJ:=R->R->Prop
abbrev jZ:=B ye
abbrev sj:=R×R
abbrev EM:=B (R×bG×bG)
abbrev Ji:=B (U×U)
abbrev tD:=gw mi
abbrev JM:=gw (Tmp×mi)
abbrev uk:=ck->mi
abbrev Sn:=B (U×U×U)
abbrev Ay:=gw U
abbrev zj:=R×U
abbrev qF:=B jo
abbrev PL:=U->R×U×R×U
abbrev uF:=B eN
abbrev acw:=gw (R×R×U)
abbrev xC:=B bj
abbrev Da:=R->ye
abbrev AR:=gw eN
abbrev Zk:=gw (R×U)
inductive au where
 |bool (b:mi)
 |int (k:IntKind) (n:U)
 |str (s:B UInt8)
 |fq
 |ptr (v off:R)
 |aq
 |slice (v off len:R) (lim:gw R)
 |eY
 |nilFunc
 |iface
 |func (f:FuncId) (first cap:B au)
 |agg (cs:B au)
 |tuple (vs:B au)
abbrev aF:=B au
abbrev cR:=gw au
abbrev wi:=B (R×au)
abbrev lB:=R->au
abbrev sL:=gw aF
abbrev Lt:=gw (aF×R×bA)
abbrev Ah:=B aF
abbrev ao(n:U):au:=.int .i64 n
abbrev aW(n:R):au:=.int .i64 (gu n)
def au.cells:au->aF
 |.agg u=>u
 |v=>[v]
def au.dm:au->mi
 |.agg _=>W
 |.tuple _=>W
 |_=>V
inductive Tr (α:Type)where
 |nil
 |node (v:gw α) (l r:Tr α)
abbrev aM:=Tr au
abbrev HM:=B (R×aM×Op×au)
abbrev Ju:=aM->Prop
abbrev uC:=R->aM
def Tr.get{α:Type}(t:Tr α):R->gw α:=Tr.rec (motive:=λ _=>R->gw α) (λ _=>X) (λ v _ _ gl u i=>vi (motive:=λ _=>gw α) (vi (motive:=λ _=>gw α) (u (avP (ajQ i 2) 1)) (gl (ajQ i 2)) (gr (aow i 2) 1)) v (gr i 0)) t
def Tr.single{α:Type}(d:R):R->gw α->Tr α:=Nat.rec (motive:=λ _=>R->gw α->Tr α) (λ _ x=>.node x .nil .nil) (λ _ u i x=>vi (motive:=λ _=>Tr α) (vi (motive:=λ _=>Tr α) (.node X .nil (u (avP (ajQ i 2) 1) x)) (.node X (u (ajQ i 2) x) .nil) (gr (aow i 2) 1)) (.node x .nil .nil) (gr i 0)) d
def Tr.set{α:Type}(t:Tr α):R->gw α->Tr α:=Tr.rec (motive:=λ _=>R->gw α->Tr α) (λ i x=>Tr.single i i x) (λ v l r sl u i x=>vi (motive:=λ _=>Tr α) (vi (motive:=λ _=>Tr α) (.node v l (u (avP (ajQ i 2) 1) x)) (.node v (sl (ajQ i 2) x) r) (gr (aow i 2) 1)) (.node x l r) (gr i 0)) t
structure Row where
 cells:aF
 aI:R
 start:R
 exact:mi
 ro:mi
 sz:R
abbrev fE:=R->gw Row
abbrev vM:=B (R×Tr Row)
abbrev oR:=gw Row
abbrev kH:=Tr Row
structure aj where
 ah:kH
 aV:Tr bG
 ae:R
abbrev kO:=gw (au×aj)
abbrev xe:=au×aj
abbrev sw:=R->aj
abbrev CD:=gw (aM×aj)
abbrev ID:=aM->aj->Prop
abbrev an0:=ck->aF->aj->au×aj->Prop
def ai(T:aM)(i:R):au:=DT (motive:=λ _=>au) (.tuple []) (λ v=>v) (T.get i)
def dZ(n:R)(T:aM)(d:fV)(v:au):aM:=DT (motive:=λ _=>aM) T (λ d=>vi (motive:=λ _=>aM) T (T.set d (O v)) (th (arb d) n)) d
def Md:ye->cR
 |.bool b=>O (.bool b)
 |.int k n=>O (.int k n)
 |.string s=>O (.str s.data.toList)
 |.pointer X=>O .fq
 |.slice X 0 0=>O .aq
 |.nilFunc=>O .nilFunc
 |.func (.func f) ⟨[]⟩ ⟨[]⟩=>O (.func f [] [])
 |_=>X
def Kk:jZ->sL
 |[]=>O []
 |v::u=>match Md v,Kk u with
  |O a,O l=>O (a::l)
  |_,_=>X
def ofValue:ye->cR
 |.agg u=>match Kk u.toList with|O l=>O (.agg l)|X=>X
 |.tuple u=>match Kk u.toList with|O l=>O (.tuple l)|X=>X
 |v=>Md v
def cy(ng:R)(T:aM)(x:eN):cR:=Operand.rec (motive:=λ _=>cR) (λ t=>O (ai T t)) (λ v=>ofValue v) (λ g=>vi (motive:=λ _=>cR) X (O (.ptr g 0)) (th (arb g) ng)) (λ f=>O (.func f [] [])) x
def Az:cR->sL->sL
 |O a,O l=>O (a::l)
 |_,_=>X
def ni(ng:R)(T:aM)(l:uF):sL:=acB (motive:=λ _=>sL) (O []) (λ x _ u=>Az (cy ng T x) u) l
def alloc(H:aj)(cells:aF)(exact:mi)(sz:R):aj:={ah:=H.ah.set H.ae (O {cells,aI:=H.ae,start:=0,exact,ro:=W,sz}),aV:=H.aV.set H.ae (O [H.ae]),ae:=H.ae+1}
def eV(u:aF)(off:R)(new:aF):aF:=u.take off++new++u.drop (off+new.length)
def oq(ah:kH)(v lo hi:R):bG->kH
 |[]=>ah
 |u::us=>
  match gr u v with
  |V=>oq ah v lo hi us
  |W=>
   match ah.get u with
   |X=>oq ah v lo hi us
   |O r=>
    match th hi r.start,th (r.start+r.cells.length) lo with
    |W,W=>oq (ah.set u X) v lo hi us
    |_,_=>oq ah v lo hi us
def tK(ah:kH)(lo:R):bG->kH
 |[]=>ah
 |u::us=>
  match ah.get u with
  |X=>tK ah lo us
  |O r=>
   match th (r.start+r.cells.length) lo with
   |V=>tK ah lo us
   |W=>tK (ah.set u X) lo us
def write(H:aj)(v off:R)(new:aF):gw aj:=
 match H.ah.get v with
 |X=>X
 |O r=>
  match r.ro,th (off+new.length) r.cells.length,new.all au.dm,H.aV.get r.aI with
  |W,V,V,O mem=>O {H with ah:=(oq H.ah v (r.start+off) (r.start+off+new.length) mem).set v (O {r with cells:=eV r.cells off new})}
  |_,_,_,_=>X
def aQ(g:fE)(v off n:R):sL:=
 match g v with
 |X=>X
 |O r=>
  match th (off+n) r.cells.length with
  |V=>O ((r.cells.drop off).take n)
  |W=>X
def xm:TypeDesc->mi
 |.struct _=>V
 |.array _ _=>V
 |_=>W
def cr(P:aA)(g:fE)(t:bj):au->cR
 |.ptr v off=>
  match P.underlying t,P.info? t with
  |O d,O i=>
   match xm d with
   |V=>match aQ g v off i.size with|O u=>O (.agg u)|X=>X
   |W=>match aQ g v off 1 with|O (c::_)=>O c|_=>X
  |_,_=>X
 |_=>X
def dD(P:aA)(H:aj)(t:bj)(x u:au):gw aj:=
 match x,P.info? t with
 |.ptr v off,O i=>
  match gr u.cells.length i.size with
  |V=>write H v off u.cells
  |W=>X
 |_,_=>X
def er(g:fE)(sz n:R):au->sL
 |.aq=>match gr n 0 with|V=>O []|W=>X
 |.eY=>match gr n 0 with|V=>O []|W=>X
 |.slice v off len _=>match th n len with|V=>aQ g v off (n*sz)|W=>X
 |_=>X
def lenOf:au->bA
 |.aq=>O 0
 |.eY=>O 0
 |.slice _ _ n _=>O n
 |_=>X
def jy(g:fE)(sz:R):au->gw (mi×R)
 |.aq=>O (V,0)
 |.slice _ _ _ (O c)=>O (V,c)
 |.slice v off _ X=>
  match g v with
  |O r=>match gr r.sz sz,th off r.cells.length with
   |V,V=>O (r.exact,(r.cells.length-off)/sz)
   |_,_=>X
  |X=>X
 |_=>X
def jS(z:aF):R->aF
 |0=>[]
 |n+1=>z++jS z n
def lg:Nat:=1099511627776
def gM(H:aj)(sz bytes:R)(s:au)(n:R)(new:aF):kO:=
 match lenOf s,jy H.ah.get sz s with
 |O u,O (ex,c)=>
  match th (u+n) c with
  |V=>
   match s with
   |.aq=>O (.aq,H)
   |.slice v off _ lim=>match write H v (off+u*sz) new with
    |O A=>O (.slice v off (u+n) lim,A)
    |X=>X
   |_=>X
  |W=>
   match er H.ah.get sz u s,th ((u+n)*bytes) lg&&th (u+n) lg with
   |O y,V=>
    match ex with
    |V=>O (.slice H.ae 0 (u+n) X,alloc H (y++new) W sz)
    |W=>
     match s with
     |.slice v off _ X=>
      match H.ah.get v with
      |O r=>
       match r.ro,new.all au.dm,H.aV.get r.aI with
       |W,V,O mem=>O (.slice H.ae 0 (u+n) X,{ah:=(tK H.ah (r.start+off+u*sz) mem).set H.ae (O {cells:=y++new,aI:=r.aI,start:=r.start+off,exact:=W,ro:=W,sz}),aV:=H.aV.set r.aI (O (H.ae::mem)),ae:=H.ae+1})
       |_,_,_=>X
      |X=>X
     |_=>X
   |_,_=>X
 |_,_=>X
def oM(x:cR)(d:R):bA:=
 match x with
 |X=>O d
 |O (.int _ n)=>match n with|.ofNat m=>O m|.negSucc _=>X
 |O _=>X
def kU(P:aA)(g:fE)(t:bj)(x:au)(lo hi:cR):cR:=
 match P.underlying t,x with
 |O .string,.str s=>
  match oM lo 0,oM hi s.length with
  |O l,O h=>
   match th l h,th h s.length with
   |V,V=>O (.str ((s.drop l).take (h-l)))
   |_,_=>X
  |_,_=>X
 |O (.slice e),.aq=>
  match oM lo 0,oM hi 0 with
  |O 0,O 0=>match P.info? e with|O _=>O .aq|X=>X
  |_,_=>X
 |O (.slice e),.eY=>
  match oM lo 0,oM hi 0 with
  |O 0,O 0=>match P.info? e with|O _=>O .eY|X=>X
  |_,_=>X
 |O (.slice e),.slice v off 0 lim=>
  match oM lo 0,oM hi 0 with
  |O 0,O 0=>match P.info? e with|O _=>O (.slice v off 0 lim)|X=>X
  |_,_=>X
 |O (.slice e),.slice v off len lim=>
  match P.info? e with
  |X=>X
  |O i=>
   match jy g i.size x,oM lo 0,oM hi len with
   |O (ex,c),O l,O h=>
    match th l h,th h c with
    |V,V=>
     match lim with
     |O c=>O (.slice v (match gr c l with|V=>off|W=>off+l*i.size) (h-l) (O (c-l)))
     |X=>
      match th (l+1) c,gr l 0 with
      |V,_=>O (.slice v (off+l*i.size) (h-l) X)
      |W,V=>O (.slice v off (h-l) X)
      |W,W=>
       match ex with
       |V=>O (.slice v off 0 (O 0))
       |W=>O .eY
    |_,_=>X
   |_,_,_=>X
 |_,_=>X
def Dc(P:aA)(fs:abB auN)(i:R):lY:=
 match fs.toList[i]?with
 |O f=>match P.info? f.type with|O j=>O (f.offset,j.size)|X=>X
 |X=>X
def fill(u:R->lY)(cells:aF):wi->sL
 |[]=>O cells
 |(i,v)::y=>
  match u i with
  |X=>X
  |O (off,size)=>
   match gr v.cells.length size,th (off+v.cells.length) cells.length with
   |V,V=>fill u (eV cells off v.cells) y
   |_,_=>X
def qA(ng:R)(T:aM):rK->gw wi
 |[]=>O []
 |(i,x)::u=>match cy ng T x,qA ng T u with
  |O a,O l=>O ((i,a)::l)
  |_,_=>X
def fW(P:aA)(t:bj):cR:=
 match P.info? t with
 |O i=>match i.zero with|O z=>ofValue z|X=>X
 |X=>X
def uB:Sem ye->cR
 |.pure v=>Md v
 |_=>X
def sh(P:aA):B auN->aF->aF->tD
 |[],[],[]=>O V
 |f::fs,.int k a::y,.int A b::u=>
  match P.underlying f.type,decide (k=A)with
  |O (.int _),V=>match decide (a=b)with|V=>sh P fs y u|W=>O W
  |_,_=>X
 |f::fs,.bool a::y,.bool b::u=>
  match P.underlying f.type with
  |O .bool=>match a==b with|V=>sh P fs y u|W=>O W
  |_=>X
 |_,_,_=>X
def IG(P:aA):R->B auN->mi
 |_,[]=>V
 |k,f::fs=>(match P.underlying f.type with|O (.int _)=>V|O .bool=>V|_=>W)&&gr f.offset k&&(f.name != "_")&&IG P (k+1) fs
def nX(P:aA)(t:bj)(x y:au):tD:=
 match P.underlying t,x,y with
 |O .bool,.bool a,.bool b=>O (a==b)
 |O (.slice _),.aq,.aq=>O V
 |O (.slice _),.aq,.slice .. =>O W
 |O (.slice _),.slice ..,.aq=>O W
 |O (.slice _),.aq,.eY=>O W
 |O (.slice _),.eY,.aq=>O W
 |O (.pointer _),.fq,.fq=>O V
 |O (.pointer _),.fq,.ptr .. =>O W
 |O (.pointer _),.ptr ..,.fq=>O W
 |O (.func ..),.nilFunc,.nilFunc=>O V
 |O (.func ..),.nilFunc,.func .. =>O W
 |O (.func ..),.func ..,.nilFunc=>O W
 |O (.struct fs),.agg A,.agg u=>
  match P.stoodInHeld t,P.eqGuardType P.depth t,IG P 0 fs.toList,gr A.length fs.toList.length,gr u.length fs.toList.length with
  |W,W,V,V,V=>sh P fs.toList A u
  |_,_,_,_,_=>X
 |_,_,_=>X
def cY(P:aA)(u:BinOp)(t:bj)(x y:au):cR:=
 match x,y with
 |.int k a,.int A b=>uB (aeQ u t (.int k a) (.int A b))
 |.str a,.str b=>uB (aeQ u t (.string ⟨⟨a⟩⟩) (.string ⟨⟨b⟩⟩))
 |_,_=>
  match u with
  |.eql=>match nX P t x y with|O b=>O (.bool b)|X=>X
  |.neq=>match nX P t x y with|O b=>O (.bool !b)|X=>X
  |_=>X
def JX(u:UnOp)(x:au):cR:=
 match x with
 |.int k n=>uB (Op.unary u (.int k n))
 |.bool b=>uB (Op.unary u (.bool b))
 |_=>X
abbrev bg:=ck->aF->aj->kO
def eL(P:aA)(u:bg)(f:ck)(args:aF)(H:aj):kO:=
 match P.funcs[f]?with
 |O fn=>
  match fn.body,fn.name== "runtime.NumGoroutine" with
  |O _,W=>u f args H
  |_,_=>X
 |X=>X
def dh(P:aA)(t:bj)(x:au):cR:=
 match P.underlying t,x with
 |O .string,.str s=>O (.int .i64 s.length)
 |O (.slice _),.aq=>O (.int .i64 (0:R))
 |O (.slice _),.eY=>O (.int .i64 (0:R))
 |O (.slice _),.slice _ _ n _=>O (.int .i64 n)
 |O (.array n _),_=>O (.int .i64 n)
 |_,_=>X
def Dy(P:aA)(g:fE)(t:bj)(x:au):cR:=
 match P.underlying t with
 |O (.slice e)=>
  match P.info? e with
  |O i=>match jy g i.size x with|O (V,c)=>O (.int .i64 c)|_=>X
  |X=>X
 |_=>X
def iC(P:aA)(H:aj)(y:xC)(args:aF):kO:=
 match y,args with
 |[t,u],[s,x]=>
  match P.underlying t,P.underlying u with
  |O (.slice e),O A=>
   match P.info? e with
   |O i=>
    match gr i.size 0,fW P e with
    |W,O z=>
     match gr z.cells.length i.size,A,x with
     |V,.int _,.int _ (.ofNat n)=>match gr n 0 with
      |V=>(match lenOf s with
       |O m=>(match gr m 0,jy H.ah.get i.size s with|V,_=>O (s,H)|W,O (_,c)=>(match th m c with|V=>O (s,H)|W=>X)|_,_=>X)
       |X=>X)
      |W=>(match th (n*i.bytes) lg,th n lg&&th 1 n with|V,V=>gM H i.size i.bytes s n (jS z.cells n)|_,_=>X)
     |V,.slice _,_=>
      match lenOf x with
      |O n=>match er H.ah.get i.size n x with|O new=>gM H i.size i.bytes s n new|X=>X
      |X=>X
     |_,_,_=>X
    |_,_=>X
   |X=>X
  |_,_=>X
 |_,_=>X
def min2(a b:Nat):Nat:=match th a b with|V=>a|W=>b
def wR(P:aA)(H:aj)(A:xC)(args:aF):kO:=
 match A,args with
 |t::_,[d,s]=>
  match P.underlying t with
  |O (.slice e)=>
   match P.info? e,lenOf d,lenOf s with
   |O i,O y,O u=>
    match er H.ah.get i.size (min2 u y) s,d with
    |O [],_=>O (.int .i64 (.ofNat (min2 u y)),H)
    |O new,.slice v off _ _=>match write H v off new with|O D=>O (.int .i64 (.ofNat (min2 u y)),D)|X=>X
    |_,_=>X
   |_,_,_=>X
  |_=>X
 |_,_=>X
def iG(H:aj):cR->kO
 |O v=>O (v,H)
 |X=>X
def fO(P:aA)(s:bj)(x:au)(f:R):cR:=
 match P.underlying s,x with
 |O (.struct fs),.ptr v off=>
  match fs.toList[f]?with
  |O fd=>match P.info? fd.type with
   |O i=>match gr i.size 0 with|W=>O (.ptr v (off+fd.offset))|V=>X
   |X=>X
  |X=>X
 |_,_=>X
def iL(P:aA)(t:bj)(x ix:au):cR:=
 match P.underlying t,x,ix with
 |O (.array len e),.ptr v off,.int _ (.ofNat i)=>
  match th (i+1) len,P.info? e with
  |V,O j=>O (.ptr v (off+i*j.size))
  |_,_=>X
 |O (.slice e),.slice v off len _,.int _ (.ofNat i)=>
  match th (i+1) len,P.info? e with
  |V,O j=>O (.ptr v (off+i*j.size))
  |_,_=>X
 |_,_,_=>X
def uw(P:aA)(t:bj)(x ix:au):cR:=
 match P.underlying t,x,ix with
 |O .string,.str s,.int _ (.ofNat i)=>match s[i]?with|O b=>O (.int .u8 b.toNat)|X=>X
 |O (.array n e),.agg u,.int _ (.ofNat i)=>
  match P.underlying e,P.info? e with
  |O d,O j=>
   match th (i+1) n,xm d with
   |V,V=>O (.agg ((u.drop (i*j.size)).take j.size))
   |V,W=>u[i*j.size]?
   |_,_=>X
  |_,_=>X
 |_,_,_=>X
def dK:Op->R
 |.load .. =>1
 |.slice .. =>1
 |.alloc _=>2
 |.box .. =>2
 |.buildSlice .. =>2
 |.makeSlice .. =>2
 |.store .. =>3
 |.call {callee:=.builtin .len,..}=>0
 |.call {callee:=.builtin .min,..}=>0
 |.call {callee:=.builtin .max,..}=>0
 |.call {callee:=.builtin .cap,..}=>1
 |.call _=>3
 |_=>0
def BE:cR->cR->cR->cR
 |O (.bool V),O x,O _=>O x
 |O (.bool W),O _,O y=>O y
 |_,_,_=>X
def mc(P:aA)(t:bj)(l:gw wi):cR:=
 match fW P t,P.underlying t,l with
 |O z,O (.struct fs),O l=>
  match fs.toList.all (λ f=>(P.info? f.type).isSome)with
  |V=>match fill (Dc P fs) z.cells l with|O u=>O (.agg u)|X=>X
  |W=>X
 |O (.agg u),O (.array _ e),O []=>match P.info? e with|O _=>O (.agg u)|X=>X
 |_,_,_=>X
def Bt:cR->cR
 |O (.ptr v off)=>O (.ptr v off)
 |O (.func f a b)=>O (.func f a b)
 |_=>X
def DA(P:aA)(u:BinOp)(t:bj):cR->cR->cR
 |O a,O b=>cY P u t a b
 |_,_=>X
def D4(u:UnOp):cR->cR
 |O a=>JX u a
 |X=>X
def sH(P:aA)(s d:bj)(x:cR):cR:=
 match P.underlying s,P.underlying d,x with
 |O _,O (.int k),O (.int _ n)=>O (.int k (k.wrap n))
 |_,_,_=>X
def Gp(f:ck):sL->sL->cR
 |O a,O b=>O (.func f a b)
 |_,_=>X
def Dk(P:aA)(s:bj)(f:R):cR->cR
 |O a=>fO P s a f
 |X=>X
def DI(P:aA)(t:bj):cR->cR->cR
 |O a,O i=>iL P t a i
 |_,_=>X
def D9(P:aA)(t:bj):cR->cR->cR
 |O a,O i=>uw P t a i
 |_,_=>X
def CU(i:R):cR->cR
 |O (.tuple u)=>u[i]?
 |_=>X
def Cn(P:aA)(ng:R)(T:aM)(c:Call):cR:=
 match c.callee,c.argTypes.toList,c.args.toList with
 |.builtin .len,t::_,[x]=>match cy ng T x with|O a=>dh P t a|X=>X
 |.builtin .min,_,[x,y]=>match cy ng T x,cy ng T y with|O (.int k a),O (.int _ b)=>O (.int k (if b<a then b else a))|_,_=>X
 |.builtin .max,_,[x,y]=>match cy ng T x,cy ng T y with|O (.int k a),O (.int _ b)=>O (.int k (if a<b then b else a))|_,_=>X
 |_,_,_=>X
def ajl(ng:R)(T:aM)(fn:Fn)(first cap:abB eN):cR:=
 match fn with
 |.func f=>Gp f (ni ng T first.toList) (ni ng T cap.toList)
 |_=>X
def nU(P:aA)(ng:R)(T:aM):Op->cR
 |.move x=>cy ng T x
 |.assign x=>cy ng T x
 |.pick c a b=>BE (cy ng T c) (cy ng T a) (cy ng T b)
 |.build t A=>mc P t (qA ng T A.toList)
 |.nilCheck x=>Bt (cy ng T x)
 |.binOp u t x y _=>DA P u t (cy ng T x) (cy ng T y)
 |.unOp u _ x=>D4 u (cy ng T x)
 |.convert s d x=>sH P s d (cy ng T x)
 |.makeFunc fn first cap=>ajl ng T fn first cap
 |.fieldAddr s x f=>Dk P s f (cy ng T x)
 |.indexAddr t x ix=>DI P t (cy ng T x) (cy ng T ix)
 |.index t x ix=>D9 P t (cy ng T x) (cy ng T ix)
 |.extract x i=>CU i (cy ng T x)
 |.call c=>Cn P ng T c
 |_=>X
def vg(ng:R)(T:aM):AR->gw cR
 |X=>O X
 |O x=>match cy ng T x with|O a=>O (O a)|X=>X
def wk(P:aA)(g:fE)(t:bj):cR->cR
 |O x=>cr P g t x
 |X=>X
def xn(P:aA)(g:fE)(t:bj):cR->gw cR->gw cR->AR->cR
 |O a,O l,O h,X=>kU P g t a l h
 |_,_,_,_=>X
def BN(P:aA)(ng:R)(T:aM)(g:fE)(c:Call):cR:=
 match c.callee,c.argTypes.toList,c.args.toList with
 |.builtin .cap,t::_,[x]=>match cy ng T x with|O a=>Dy P g t a|X=>X
 |_,_,_=>X
def dY(P:aA)(ng:R)(T:aM)(g:fE):Op->cR
 |.load t a=>wk P g t (cy ng T a)
 |.slice t x lo hi mx=>xn P g t (cy ng T x) (vg ng T lo) (vg ng T hi) mx
 |.call c=>BN P ng T g c
 |_=>X
def vW:cR->Lt
 |O z=>O (z.cells,1,X)
 |X=>X
def oW(P:aA)(t:bj)(len:R)(l:gw wi):Lt:=
 match P.underlying t,l with
 |O (.slice e),O l=>
  match P.info? e,fW P e with
  |O i,O z=>
   match gr z.cells.length i.size,gr i.size 0,th (len*i.size) 16777216 with
   |V,W,V=>
    match fill (λ j=>O (j*i.size,i.size)) (jS z.cells len) l with
    |O u=>O (u,i.size,O len)
    |X=>X
   |_,_,_=>X
  |_,_=>X
 |_,_=>X
def wu(P:aA)(t:bj)(l c:cR):Lt:=
 match P.underlying t,l,c with
 |O (.slice e),O (.int .i64 (.ofNat n)),O (.int .i64 (.ofNat m))=>
  match P.info? e,fW P e with
  |O i,O z=>
   match gr z.cells.length i.size,gr i.size 0,th n m,th (m*i.bytes) lg,th m lg with
   |V,W,V,V,V=>O (jS z.cells m,i.size,O n)
   |_,_,_,_,_=>X
  |_,_=>X
 |_,_,_=>X
def wM(P:aA)(ng:R)(T:aM):Op->Lt
 |.alloc t=>vW (fW P t)
 |.box _ x=>vW (cy ng T x)
 |.buildSlice t len u=>oW P t len (qA ng T u.toList)
 |.makeSlice t l c=>wu P t (cy ng T l) (cy ng T c)
 |_=>X
def yu(id:R):bA->au
 |X=>.ptr id 0
 |O n=>.slice id 0 n X
def xG(P:aA)(H:aj)(t:bj):cR->cR->kO
 |O p,O v=>match dD P H t p v with|O u=>O (.tuple [],u)|X=>X
 |_,_=>X
def ud(P:aA)(u:bg)(H:aj):cR->sL->kO
 |O (.func g first cap),O l=>eL P u g (first++l++cap) H
 |_,_=>X
def Bj(P:aA)(H:aj)(u:xC):sL->kO
 |O l=>iC P H u l
 |X=>X
def GX(P:aA)(H:aj)(u:xC):sL->kO
 |O l=>wR P H u l
 |X=>X
def yT(P:aA)(ng:R)(u:bg)(T:aM)(H:aj)(c:Call):kO:=
 match c.callee with
 |.value f=>ud P u H (cy ng T f) (ni ng T c.args.toList)
 |.builtin .append=>Bj P H c.argTypes.toList (ni ng T c.args.toList)
 |.builtin .copy=>GX P H c.argTypes.toList (ni ng T c.args.toList)
 |_=>X
def uV(P:aA)(ng:R)(u:bg)(T:aM)(H:aj):Op->kO
 |.store t a x=>xG P H t (cy ng T a) (cy ng T x)
 |.call c=>yT P ng u T H c
 |_=>X
def sy(H:aj):Lt->kO
 |O (u,sz,n)=>O (yu H.ae n,alloc H u V sz)
 |X=>X
def bR(P:aA)(ng:R)(u:bg)(T:aM)(H:aj)(o:Op):kO:=
 match dK o with
 |0=>iG H (nU P ng T o)
 |1=>iG H (dY P ng T H.ah.get o)
 |2=>sy H (wM P ng T o)
 |_=>uV P ng u T H o
def cn(u:dM)(T:aM)(o:Oper):Bool:=
 match o.guard with
 |X=>V
 |O (j,want)=>
  match u[j]?with
  |O y=>match y.dst with
   |O d=>match ai T d with
    |.bool b=>b==want
    |_=>W
   |X=>W
  |X=>W
def gv(P:aA)(ng:R)(y:bg)(n:R)(u:dM)(l:dM):aM->aj->CD:=acB (motive:=λ _=>aM->aj->CD) (λ T H=>O (T,H)) (λ o _ A T H=>vi (motive:=λ _=>CD) (A (dZ n T o.dst (.tuple [])) H) (DT (motive:=λ _=>CD) X (λ r=>A (dZ n T o.dst r.1) r.2) (bR P ng y T H o.op)) (cn u T o)) l
def tb(m i:R):Bool:=gr (aow (Nat.shiftRight m i) 2) 1
mutual
noncomputable def gQ:au->au->mi
 |.bool a,.bool b=>a==b
 |.int j a,.int k b=>decide (j=k)&&decide (a=b)
 |.str a,.str b=>decide (a=b)
 |.fq,.fq=>V
 |.ptr v o,.ptr v' o'=>gr v v'&&gr o o'
 |.aq,.aq=>V
 |.slice v o n l,.slice v' o' n' l'=>gr v v'&&gr o o'&&gr n n'&&decide (l=l')
 |.eY,.eY=>V
 |.nilFunc,.nilFunc=>V
 |.iface,.iface=>V
 |.func f a b,.func f' a' b'=>gr f f'&&wc a a'&&wc b b'
 |.agg a,.agg b=>wc a b
 |.tuple a,.tuple b=>wc a b
 |_,_=>W
noncomputable def wc:B au->B au->mi
 |[],[]=>V
 |a::aah,b::bs=>gQ a b&&wc aah bs
 |_,_=>W
end
structure jf where
 bM:bG
 es:vM
 rs:HM
abbrev G5:=gw (jf×aM×aj)
abbrev Jg:=jf×aM×aj
def wX(i:R)(T:aM)(o:Op)(S:jf)(v:au):jf:={S with rs:=(i,T,o,v)::S.rs}
def Bn(i:R)(S:jf):jf:={S with bM:=i::S.bM}
def D2(i:R)(S:jf)(H:aj):jf:={S with bM:=i::S.bM,es:=(i,H.ah)::S.es}
def qw(u:R)(l:bG):Bool:=acB (motive:=λ _=>Bool) V (λ a _ y=>vi (motive:=λ _=>Bool) W y (tb u a)) l
def jt(u i:R)(T:aM)(o:Op)(S:jf)(r:xe):gw jf:=
 match dK o with
 |0=>O S
 |1=>O (wX i T o S r.1)
 |2=>O (Bn i S)
 |_=>match qw u S.bM with|V=>O (D2 i S r.2)|W=>X
def kx(P:aA)(ng:R)(A:bg)(n:R)(y:dM)(u:oh)(l:dM):R->jf->aM->aj->G5:=acB (motive:=λ _=>R->jf->aM->aj->G5) (λ _ S T H=>O (S,T,H)) (λ o _ D i S T H=>vi (motive:=λ _=>G5) (D (arb i) S (dZ n T o.dst (.tuple [])) H) (DT (motive:=λ _=>G5) X (λ r=>DT (motive:=λ _=>G5) X (λ F=>D (arb i) F (dZ n T o.dst r.1) r.2) (jt (u i) i T o.op S r)) (bR P ng A T H o.op)) (cn y T o)) l
def mX(P:aA)(ng:R)(T:aM)(g:fE)(o:Op)(v:au):Bool:=
 match dY P ng T g o with
 |O x=>gQ x v
 |X=>W
def uE(P:aA)(ng:R)(y:oh)(u:kH)(j:R)(T:aM)(o:Op)(v:au)(es:vM):bA->Bool:=
 acB (motive:=λ _=>bA->Bool)
  (λ up=>(match up with|O e=>tb (y j) e|X=>W)||mX P ng T u.get o v)
  (λ e _ A up=>((match up with|O D=>tb (y j) D|X=>W)||tb (y e.1) j||mX P ng T e.2.get o v)&&A (O e.1)) es
def wK(P:aA)(ng:R)(y:oh)(u:kH)(es:vM)(rs:HM):Bool:=acB (motive:=λ _=>Bool) V (λ r _ A=>uE P ng y u r.1 r.2.1 r.2.2.1 r.2.2.2 es X&&A) rs
def pQ(P:aA)(ng:R)(y:oh)(u:kH):G5->CD
 |O (S,T,H)=>match wK P ng y u S.es S.rs with|V=>O (T,H)|W=>X
 |X=>X
def eA(u:dV):Nat->Nat:=λ i=>(Region.before u).getD i 0
def sg(k i:Nat):Nat:=if i=0 then k else if i<=k then i- 1 else i
def yC(k j:Nat):Nat:=if j<k then j+1 else if j=k then 0 else j
def Jt(k:R)(o:Oper):Oper:={o with after:=(o.after.toList.map λ e=>{e with on:=sg k e.on}).toArray}
def qj(k:R)(u:dV):dV:=((vv u.size).map λ j=>Jt k (u.getD (yC k j) default)).toArray
def AG(u:dV):Bool:=u.toList.all λ o=>o.guard.isNone
def kz(u:dV):dV:=qj 9 (qj 9 (qj 9 (qj 9 u)))
def N1(u:dV):Bool:=(vv u.size).all λ j=>(vv j).all λ i=>tb (eA u j) i||(u.getD i default).apart u (u.getD j default)
def uR(md:Region.Mode)(u:dV):bG->bG->mi
 |[],seen=>(vv u.size).all λ i=>seen.contains i
 |i::y,seen=>(match u[i]?with|O o=>o.after.toList.all (λ e=> !Region.binds md e||seen.contains e.on)|X=>W)&&uR md u y (i::seen)
def wo(u:dV):Bool:=uR .any u (abg .any u 0) []&&uR .text u (abg .text u 0) []&&uR .gc u (abg .gc u 0) []&&N1 u
def ae8(u:dV):Bool:=match u[0]?,u[9]?with
 |O a,O b=>gr (dK a.op) 2&&(gr (dK b.op) 3&& !(tb (eA u 9) 0))
 |_,_=>W
def tm(u:dV):Bool:=AG u&&(gr u.size 14&&(ae8 u&&wo (kz u)))
def FI(P:aA)(ng:R)(A:R)(y:kH)(S:jf)(T:aM)(H:aj)(o:Op)(v:au):Bool:=
 match S.es with
 |[]=>(S.bM.all λ k=>tb A k)&&mX P ng T (λ u=>match y.get u with|X=>H.ah.get u|O _=>X) o v
 |e::_=>(S.bM.all λ k=>th k e.1||tb A k)&&mX P ng T (λ u=>match e.2.get u with|X=>H.ah.get u|O _=>X) o v
def CN(P:aA)(ng:R)(y i:R)(u:kH)(T:aM)(H:aj)(o:Op)(S:jf)(r:xe):gw jf:=
 match dK o with
 |0=>O S
 |1=>match FI P ng y u S T H o r.1 with|V=>O (Bn i S)|W=>O (wX i T o S r.1)
 |2=>O (Bn i S)
 |_=>match qw y S.bM with|V=>O (D2 i S r.2)|W=>X
def nV(P:aA)(ng:R)(D:bg)(n:R)(u:kH)(A:dM)(y:oh):dM->R->jf->aM->aj->G5
 |[],_,S,T,H=>O (S,T,H)
 |o::l,i,S,T,H=>match cn A T o with
  |W=>X
  |V=>match bR P ng D T H o.op with
   |X=>X
   |O r=>match CN P ng (y i) i u T H o.op S r with
    |X=>X
    |O F=>nV P ng D n u A y l (i+1) F (dZ n T o.dst r.1) r.2
def kK(P:aA)(ng:R)(y:bg)(n:R)(u:dV)(T:aM)(H:aj)(A:mi):CD:=
 match A with
 |W=>gv P ng y n u.toList u.toList T H
 |V=>match tm u with
  |W=>pQ P ng (eA u) H.ah (kx P ng y n u.toList (eA u) u.toList 0 ⟨[],[],[]⟩ T H)
  |V=>pQ P ng (eA (kz u)) H.ah (nV P ng y n H.ah (kz u).toList (eA (kz u)) (kz u).toList 0 ⟨[],[],[]⟩ T H)
def N3{P:aA}{y:bg}{u:dV}{T:aM}{H:aj}(h:tm u=W):kK P ng y n u T H V=pQ P ng (eA u) H.ah (kx P ng y n u.toList (eA u) u.toList 0 ⟨[],[],[]⟩ T H):=by rw[kK,h]
def MT{P:aA}{y:bg}{u:dV}{T:aM}{H:aj}(h:tm u=V):kK P ng y n u T H V=pQ P ng (eA (kz u)) H.ah (nV P ng y n H.ah (kz u).toList (eA (kz u)) (kz u).toList 0 ⟨[],[],[]⟩ T H):=by rw[kK,h]
def Xh{P:aA}{y:bg}{u:dV}{T:aM}{H:aj}{r:aM×aj}(h:kK P ng y n u T H V=O r):pQ P ng (eA u) H.ah (kx P ng y n u.toList (eA u) u.toList 0 ⟨[],[],[]⟩ T H)=O r\/
 (tm u=V/\pQ P ng (eA (kz u)) H.ah (nV P ng y n H.ah (kz u).toList (eA (kz u)) (kz u).toList 0 ⟨[],[],[]⟩ T H)=O r):=by
 cases A:tm u;.rw[N3 A]at h;exact .inl h
 .rw[MT A]at h;exact .inr ⟨Q,h⟩
def aen{P:aA}{Y:bg}{N:dM}{u:oh}{a:R}:∀{l:dM} {i:R} {S:jf} {T:aM} {H:aj} {x:Jg},kx P ng Y n N u l i S T H=O x->a∈S.bM->(∀o∈l,o.guard=X)->∀(m:R) o,l[m]? =O o->dK o.op=3->tb (u (i+m)) a=true
 |[],i,S,T,H,x,_,_,_,m,o,hm,_=>by cases hm
 |p::l,i,S,T,H,x,h,M,hg,m,o,hm,F=>by
  have h:(vi _ _ _)=O x:=h;have hw:cn N T p=true:=by unfold cn;rw[hg p (dJ ..)]
  rw[hw]at h;cases Z:bR P ng Y T H _;.rw[Z]at h;cases h
  rename_i q;rw[Z]at h;have h:(DT X _ _)=O x:=h;cases y:jt _ i T _ S q;.rw[y]at h;cases h
  rename_i S';rw[y]at h
  have J:a∈S'.bM/\(dK p.op=3->tb (u i) a=true):=by
   unfold jt at y;split at y;.rename_i e;cases y;exact⟨M,λ D=>by rw[e]at D;cases D⟩
   .rename_i e;cases y;exact⟨M,λ D=>by rw[e]at D;cases D⟩
   .rename_i e;cases y;exact⟨cV _ M,λ D=>by rw[e]at D;cases D⟩
   split at y<;>cases y;rename_i A;refine⟨cV _ M,λ _=>?_⟩
   have all:∀(l),qw (u i) l=true->∀b∈l,tb (u i) b=true:=by
    intro l;induction l with
    |nil=>intro _ b K;cases K
    |cons c l ih=>
     intro A b K;have A:vi W _ _=true:=A;cases F:tb _ c;.rw[F]at A;cases A
     rw[F]at A;rcases cg.1 K with rfl|K
     .exact F
     exact ih A b K
   exact all _ A a M
  match m,hm with
  |0,hm=>cases hm;exact J.2 F
  |m+1,hm=>exact(aa:i+(m+1)=i+1+m)▸(aen h J.1 (λ o Z=>hg o (cV _ Z)) m o hm F)
def arf{P:aA}{D:bg}{u:dV}{T:aM}{H:aj}{x:Jg}(h:kx P ng D n u.toList (eA u) u.toList 0 ⟨[],[],[]⟩ T H=O x):tm u=false:=by
 cases K:tm u;.rfl
 unfold tm ae8 at K;simp at K;obtain⟨M,_,F,_⟩:=K;split at F<;>try cases F
 rename_i a b S hb;simp at F;obtain⟨h2,h3,h0⟩:=F;unfold AG at M;rw[iw]at M;have y:=λ o A=>by simpa using M o A
 cases J:u.toList
 .have:u.toList[0]? =O a:=by simpa using S
  rw[J]at this;cases this
 rename_i p l
 have Z:p=a:=by
  have:u.toList[0]? =O a:=by simpa using S
  rw[J]at this;cases this;rfl
 subst Z
 have N:=by
  have:u.toList[9]? =O b:=by simpa using hb
  rw[J]at this;exact this
 rw[J]at h y;have h:(vi _ _ _)=O x:=h;have Y:cn (p::l) T p=true:=by unfold cn;rw[y p (dJ ..)]
 rw[Y]at h;cases A:bR P ng D T H _;.rw[A]at h;cases h
 rename_i q;rw[A]at h;have h:(DT X _ _)=O x:=h;rw[show jt _ 0 T _ _ q=O _ by unfold jt;rw[h2];rfl]at h;have e:=(aen h (dJ ..) (λ o A=>y o (cV _ A)) 8 b N h3);rw[h0]at e;cases e
def Mk{P:aA}{y:bg}{u:dV}{T:aM}{H:aj}{r:aM×aj}(h:pQ P ng (eA u) H.ah (kx P ng y n u.toList (eA u) u.toList 0 ⟨[],[],[]⟩ T H)=O r):kK P ng y n u T H V=O r:=by
 cases hx:kx P ng y n _ _ _ 0 _ T H;.rw[hx]at h;cases h
 rename_i x;rw[N3 (arf hx)];exact h
inductive oP where
 |normal
 |exit (id:R)
 |ret
abbrev nv:=oP->aM->aj->Prop
abbrev Jh:=oP×aM×aj
abbrev uQ:=gw Jh
def rG:CD->uQ
 |O (T,H)=>O (.normal,T,H)
 |X=>X
def andThen(k:aM->aj->uQ):uQ->uQ
 |O (.normal,T,H)=>k T H
 |r=>r
def oL(x y:uQ):cR->uQ
 |O (.bool V)=>x
 |O (.bool W)=>y
 |_=>X
def nN(id:R):uQ->uQ
 |O (.exit j,T,H)=>match gr j id with|V=>O (.normal,T,H)|W=>O (.exit j,T,H)
 |r=>r
def dE(P:aA)(ng:R)(A:bg)(n:R)(m:R):Code->aM->aj->uQ:=
 Nat.rec (motive:=λ _=>Code->aM->aj->uQ) (λ _ _ _=>X)
  (λ _ u c T H=>Code.casesOn (motive:=λ _=>uQ) c
   (O (.normal,T,H))
   (λ _ y d=>rG (kK P ng A n y T H d))
   (λ a b=>andThen (u b) (u a T H))
   (λ x a b=>oL (u a T H) (u b T H) (cy ng T x))
   (λ id a=>nN id (u a T H))
   (λ a=>andThen (u (.loop a)) (u a T H))
   (λ _ _ _ _=>X)
   (λ id=>O (.exit id,T,H))
   (λ _=>X) (λ _=>X) (λ _=>X)
   (O (.ret,T,H))
   (λ _=>X)) m
def eH:aF->R->aM->aM
 |[],_,T=>T
 |v::u,i,T=>eH u (i+1) (T.set i (O v))
def eG(P:aA)(g:fE)(T:aM):B ResultVar->sL
 |[]=>O []
 |.tmp t::rs=>match eG P g T rs with|O l=>O (ai T t::l)|X=>X
 |.cell a t::rs=>match cr P g t (ai T a),eG P g T rs with|O v,O l=>O (v::l)|_,_=>X
def Vx(P:aA)(fn:Func):uQ->kO
 |O (.exit _,_,_)=>X
 |O (_,T,u)=>
  match eG P u.ah.get T fn.results.toList with
  |O [v]=>O (v,u)
  |O l=>O (.tuple l,u)
  |X=>X
 |X=>X
def LM(P:aA)(ng:R)(u:bg)(args:aF)(H:aj)(fn:Func):kO:=DT (motive:=λ _=>kO) X (λ c=>Vx P fn (dE P ng u (Nat.add args.length (avP fn.ntmps args.length)) 1000000 c (eH args 0 .nil) H)) fn.body
abbrev QH:=ck->aF->aj->cR
end
section
variable{T:aM}{a:au}{aah:aF}{v:ye}{xs:jZ}
theorem abi{p:Prop}(h:p:=by grind[Nat.eq_of_beq_eq_true]):p:=h
theorem Tr.L5(v:gw α)(l r:Tr α)(i:R):
 (Tr.node v l r).get i=if i=0 then v else if i%2=1 then l.get (i/2)else r.get (i/2- 1):=by
 show vi (motive:=λ _=>gw α) (vi (r.get (i/2- 1)) (l.get (i/2)) (gr (i%2) 1)) v _=_;by_cases h:i=0;.subst h;rfl
 .rw[aR h,(abi:gr i 0=W)];by_cases h1:i%2=1;.simp_all
  rw[aR h1,(show gr _ 1=W by grind[gr])]
theorem Tr.aBU(v:gw α)(l r:Tr α)(i:R)(x:gw α):
 (Tr.node v l r).set i x=if i=0 then .node x l r else if i%2=1 then .node v (l.set (i/2) x) r else .node v l (r.set (i/2- 1) x):=by
 show vi (motive:=λ _=>Tr α) (vi (.node v l (r.set (i/2- 1) x)) (.node v (l.set (i/2) x) r) (gr (i%2) 1)) _ _=_;by_cases h:i=0;.subst h;rfl
 .rw[aR h,(abi:gr i 0=W)];by_cases h1:i%2=1;.simp_all
  rw[aR h1,(show gr _ 1=W by grind[gr])]
theorem Tr.awU(d i:R)(x:gw α):
 Tr.single (d+1) i x=if i=0 then .node x .nil .nil else if i%2=1 then .node X (Tr.single d (i/2) x) .nil else .node X .nil (Tr.single d (i/2- 1) x):=by
 show vi (motive:=λ _=>Tr α) (vi (.node X .nil (Tr.single d (i/2- 1) x)) (.node X (Tr.single d (i/2) x) .nil) (gr (i%2) 1)) _ _=_;by_cases h:i=0;.subst h;rfl
 .rw[aR h,(abi:gr i 0=W)];by_cases h1:i%2=1;.simp_all
  rw[aR h1,(show gr _ 1=W by grind[gr])]
theorem Tr.axA(x:gw α):∀(d i j:R),i<=d->(Tr.single d i x).get j=if i=j then x else none:=by
 intro d;induction d with
 |zero=>
  intro i j h;obtain rfl:i=0:=aa;show(Tr.node x .nil .nil).get j=_;rw[Tr.L5];by_cases u:j=0;.subst u;simp
  rw[aR u,aR (aa:¬0=j)];split<;>rfl
 |succ d A=>
  intro i j h;rw[Tr.awU];by_cases hi:i=0
  .subst hi;rw[aY Q,Tr.L5];by_cases u:j=0;.subst u;simp
   rw[aR u,aR (aa:¬0=j)];split<;>rfl
  rw[aR hi];by_cases h1:i%2=1
  .rw[aY h1,Tr.L5];by_cases u:j=0;.simp_all
   rw[aR u];by_cases y:j%2=1;.grind
   rw[aR y,aR aa];rfl
  rw[aR h1,Tr.L5];by_cases u:j=0;.simp_all
  rw[aR u];by_cases y:j%2=1;.rw[aY y,aR aa];rfl
  grind
theorem Tr.jg(x:gw α):∀(t:Tr α) (i j:R),(t.set i x).get j=if i=j then x else t.get j:=by
 intro t;induction t with
 |nil=>intro i j;show(Tr.single i i x).get j=_;rw[Tr.axA x i i j (aZ _)];rfl
 |node v l r y u=>grind[Tr.aBU,Tr.L5]
theorem Tr.tA(t:Tr α)(i:R)(x:gw α):(t.set i x).get i=x:=by rw[Tr.jg,aY Q]
theorem Tr.uW(t:Tr α){i j:R}(h:i≠j)(x:gw α):(t.set i x).get j=t.get j:=by rw[Tr.jg,aR h]
theorem Fi(T:aM)(i:R):ai T i=(T.get i).getD (.tuple []):=by unfold ai;cases T.get i<;>rfl
theorem Tu(n:R)(T:aM)(d:R)(v:au):dZ n T (O d) v=if d<n then T.set d (O v)else T:=by
 show vi (motive:=λ _=>aM) T _ _=_;by_cases h:d<n;.rw[aY h,cD h]
 rw[aR h,(show th _ n=W by cases e:th _ n with|false=>rfl|true=>exact absurd (Hc e) h)]
def ama(n:R)(T:aM)(v:au):dZ n T X v=T:=rfl
structure Loc where
 cU:R
 off:R
 cap:R
 sz:R
abbrev dO:=R->gw Loc
mutual
def bW(ρ:dO):au->ye->Prop
 |.bool b,v=>v=.bool b
 |.int k n,v=>v=.int k n
 |.str s,v=>v=.string ⟨⟨s⟩⟩
 |.fq,v=>v=.pointer X
 |.ptr x off,v=>∃l,ρ x=O l/\v=.pointer (O ⟨l.cU,l.off+off,X⟩)
 |.aq,v=>v=.slice X 0 0
 |.slice x off len (O c),v=>∃l,ρ x=O l/\v=.slice (O ⟨l.cU,l.off+off,X⟩) len c
 |.slice x off len X,v=>∃l,ρ x=O l/\v=.slice (O ⟨l.cU,l.off+off,X⟩) len ((l.cap-off)/l.sz)
 |.eY,v=>∃a c,v=.slice (O a) 0 c
 |.nilFunc,v=>v=.nilFunc
 |.iface,v=>v=.nilIface\/∃u x,v=.iface u x
 |.func f a b,v=>∃xs ys,v=.func (.func f) ⟨xs⟩ ⟨ys⟩/\dS ρ a xs/\dS ρ b ys
 |.agg cs,v=>∃xs,v=.agg ⟨xs⟩/\dS ρ cs xs
 |.tuple cs,v=>∃xs,v=.tuple ⟨xs⟩/\dS ρ cs xs
def dS(ρ:dO):B au->B ye->Prop
 |[],xs=>xs=[]
 |c::cs,xs=>∃y ys,xs=y::ys/\bW ρ c y/\dS ρ cs ys
end
def sS(ρ u:dO):Prop:=∀v l,ρ v=O l->u v=O l
theorem sS.refl(ρ:dO):sS ρ ρ:=λ _ _ h=>h
theorem sS.trans{a b c:dO}(h:sS a b)(k:sS b c):sS a c:=λ v l e=>k v l (h v l e)
mutual
theorem CF{ρ ρ':dO}(h:sS ρ ρ'):∀(a:au) (v:ye),bW ρ a v->bW ρ' a v
 |.bool _,_,e=>e
 |.int _ _,_,e=>e
 |.str _,_,e=>e
 |.fq,_,e=>e
 |.ptr _ _,_,⟨l,e,k⟩=>⟨l,h _ _ e,k⟩
 |.aq,_,e=>e
 |.slice _ _ _ (O _),_,⟨l,e,k⟩=>⟨l,h _ _ e,k⟩
 |.slice _ _ _ X,_,⟨l,e,k⟩=>⟨l,h _ _ e,k⟩
 |.eY,_,e=>e
 |.nilFunc,_,e=>e
 |.iface,_,e=>e
 |.func _ a b,_,⟨xs,ys,e,k,m⟩=>⟨xs,ys,e,Ng h a xs k,Ng h b ys m⟩
 |.agg cs,_,⟨xs,e,k⟩=>⟨xs,e,Ng h cs xs k⟩
 |.tuple cs,_,⟨xs,e,k⟩=>⟨xs,e,Ng h cs xs k⟩
theorem Ng{ρ ρ':dO}(h:sS ρ ρ'):∀(aah:B au) (vs:B ye),dS ρ aah vs->dS ρ' aah vs
 |[],_,e=>e
 |a::aah,_,⟨y,ys,e,k,m⟩=>⟨y,ys,e,CF h a y k,Ng h aah ys m⟩
end
theorem pM{ρ:dO}:dS ρ [] xs↔xs=[]:=by simp[dS]
theorem ep{ρ:dO}:dS ρ (a::aah) xs↔∃y ys,xs=y::ys/\bW ρ a y/\dS ρ aah ys:=by simp[dS]
theorem pY{ρ:dO}:∀{aah:aF} {xs:jZ},dS ρ aah xs->xs.length=aah.length
 |[],_,h=>by rw[pM.1 h];rfl
 |a::aah,_,h=>by obtain⟨y,u,rfl,_,k⟩:=ep.1 h;simp[pY k]
theorem vL{ρ:dO}:∀{aah:aF} {xs:jZ},dS ρ aah xs->∀{i:R} {a:au},aah[i]? =O a->∃x,xs[i]? =O x/\bW ρ a x
 |[],_,_,_,_,e=>by simp at e
 |a::aah,_,h,i,b,e=>by
  obtain⟨y,u,rfl,A,k⟩:=ep.1 h;cases i;.simp_all
  rename_i i;obtain⟨x⟩:=vL k e;simp_all
theorem LK{ρ:dO}:∀{aah:aF} {xs:jZ},xs.length=aah.length->(∀(i:R) (a:au),aah[i]? =O a->∃x,xs[i]? =O x/\bW ρ a x)->dS ρ aah xs
 |[],xs,u,_=>pM.2 (by simp_all)
 |a::aah,xs,u,h=>by
  cases xs;.simp at u
  rename_i y A;refine ep.2 ⟨y,A,Q,?_,LK (by simpa using u) (λ i b e=>?_)⟩;.obtain⟨x⟩:=h 0 a aw;simp_all
  obtain⟨x⟩:=h (i+1) b (by simpa using e);simp_all
theorem L6{ρ:dO}:∀{aah bs:aF} {xs u:jZ},dS ρ aah xs->dS ρ bs u->dS ρ (aah++bs) (xs++u)
 |[],_,_,_,h,k=>(pM.1 h)▸k
 |a::aah,bs,_,u,h,k=>by obtain⟨y,A,rfl,D,F⟩:=ep.1 h;exact ep.2 ⟨y,A++u,Q,D,L6 F k⟩
theorem amT{ρ:dO}(n:R)(h:dS ρ aah xs):dS ρ (aah.take n) (xs.take n):=by grind[LK,pY,vL]
theorem agO{ρ:dO}(n:R)(h:dS ρ aah xs):dS ρ (aah.drop n) (xs.drop n):=by grind[LK,pY,vL]
theorem P2(ρ:dO):bW ρ (.tuple []) undef:=⟨[],Q,Q⟩
def XE{ρ:dO}(h:Md v=O a):bW ρ a v:=by unfold Md at h;split at h<;>first|(cases h;first|rfl|exact⟨[],[],rfl,rfl,rfl⟩)|cases h
def abD{ρ:dO}:∀{u:jZ} {aah:aF},Kk u=O aah->dS ρ aah u
 |[],aah,h=>by simp[Kk]at h;subst h;rfl
 |v::u,aah,h=>by rw[Kk]at h;split at h<;>cases h;rename_i a l A y;exact ep.2 ⟨v,u,Q,XE A,abD y⟩
theorem afb{ρ:dO}(h:ofValue v=O a):bW ρ a v:=by
 unfold ofValue at h;split at h;.rename_i y;split at h<;>cases h;rename_i l u;exact⟨y.toList,Q,abD u⟩
 .rename_i y;split at h<;>cases h;rename_i l u;exact⟨y.toList,Q,abD u⟩
 exact XE h
def DK{ρ:dO}(h:bW ρ a v):dS ρ a.cells v.cells.toList:=by
 cases a with
 |agg F=>obtain⟨xs,rfl,k⟩:=h;exact k
 |slice x off len lim=>
  cases lim;.obtain⟨l,A,rfl⟩:=h;exact ep.2 ⟨_,[],Q,⟨l,A,Q⟩,Q⟩
  rename_i c;obtain⟨l,A,rfl⟩:=h;exact ep.2 ⟨_,[],Q,⟨l,A,Q⟩,Q⟩
 |ptr x off=>obtain⟨l,A,rfl⟩:=h;exact ep.2 ⟨_,[],Q,⟨l,A,Q⟩,Q⟩
 |eY=>obtain⟨l,A,rfl⟩:=h;exact ep.2 ⟨_,[],Q,⟨l,A,Q⟩,Q⟩
 |func f x y=>obtain⟨xs,D,rfl,k⟩:=h;exact ep.2 ⟨_,[],Q,⟨xs,D,Q,k⟩,Q⟩
 |tuple F=>obtain⟨xs,rfl,k⟩:=h;exact ep.2 ⟨_,[],Q,⟨xs,Q,k⟩,Q⟩
 |bool b=>cases h;exact ep.2 ⟨_,[],Q,Q,Q⟩
 |int k n=>cases h;exact ep.2 ⟨_,[],Q,Q,Q⟩
 |str s=>cases h;exact ep.2 ⟨_,[],Q,Q,Q⟩
 |fq=>cases h;exact ep.2 ⟨_,[],Q,Q,Q⟩
 |aq=>cases h;exact ep.2 ⟨_,[],Q,Q,Q⟩
 |nilFunc=>cases h;exact ep.2 ⟨_,[],Q,Q,Q⟩
 |iface=>
  rcases h with rfl|⟨u,x,rfl⟩
  .exact ep.2 ⟨_,[],Q,.inl Q,Q⟩
  exact ep.2 ⟨_,[],Q,.inr ⟨u,x,Q⟩,Q⟩
def aHh{ρ:dO}(h:bW ρ a v)(D:a.dm=true):v.oneCell'=true:=by
 cases a with
 |agg F=>simp[au.dm]at D
 |tuple F=>simp[au.dm]at D
 |slice x off len lim=>cases lim<;>(obtain⟨l,A,rfl⟩:=h;rfl)
 |ptr x off=>obtain⟨l,A,rfl⟩:=h;rfl
 |eY=>obtain⟨l,A,rfl⟩:=h;rfl
 |func f x y=>obtain⟨xs,J,rfl,k⟩:=h;rfl
 |bool b=>cases h;rfl
 |int k n=>cases h;rfl
 |str s=>cases h;rfl
 |fq=>cases h;rfl
 |aq=>cases h;rfl
 |nilFunc=>cases h;rfl
 |iface=>rcases h with rfl|⟨u,x,rfl⟩<;>rfl
theorem adm{ρ:dO}:∀{aah:aF} {D:jZ},dS ρ aah D->aah.all au.dm=V->∀v∈D,v.oneCell'=V
 |[],_,h,_,v,u=>by grind[pM]
 |a::aah,_,h,A,v,u=>by
  obtain⟨y,J,rfl,F,k⟩:=ep.1 h;rw[ny,bq]at A;simp at u;rcases u with rfl|u
  .exact aHh F A.1
  exact adm k A.2 v u
structure hY (ρ:dO) (n:R) (T:aM) (tmps:kA):Prop where
 size:tmps.size=n
 get:∀i,bW ρ (ai T i) (tmps.getD i undef)
def hY.mono{ρ u:dO}{tmps:kA}(h:hY ρ n T tmps)(e:sS ρ u):hY u n T tmps:=⟨h.size,λ i=>CF e _ _ (h.get i)⟩
theorem hY.put{ρ:dO}{a:Act}(h:hY ρ n T a.tmps)(d:fV){v:au}{x:ye}(y:bW ρ v x):
 hY ρ n (dZ n T d v) (a.put d x).tmps:=by
 cases d;.exact h
 .rename_i d;refine⟨by simp[Act.put,h.size],λ i=>?_⟩;rw[Tu];by_cases u:d<n
  .rw[aY u,Fi,Tr.jg];by_cases e:d=i;.rw[Act.put];have:=h.size▸u;simp_all
   rw[aR e,<-Fi];simpa[Act.put,qh,adP e]using(h.get i)
  have:=h.get i;have A:=h.size▸u;grind[Act.put]
end
section
variable{C:kA}{e:bj}{aI fam' fam₁ fam₂:vd}{fz:sj}{obj obj' obj₁ obj₂:fE}{w' w₁ w₂:cG}{β:Type}{ρ ρ' ρ₁ ρ₂:dO}
def iH{β:Type}(f:R->β)(i:R)(x:β):R->β:=λ j=>if i=j then x else f j
theorem iW(f:R->β)(i:R)(x:β):iH f i x i=x:=by simp[iH]
theorem gO(f:R->β){i j:R}(h:i≠j)(x:β):iH f i x j=f j:=by simp[iH,h]
theorem yF(t:Tr α)(i:R)(x:gw α):(t.set i x).get=iH t.get i x:=funext λ j=>Tr.jg x t i j
structure Ch (Bqq:R) (ρ:dO) (r:Row) (l:Loc) (C:kA) (fz:sj):Prop where
 len:r.cells.length<=l.cap
 cap:l.off+l.cap<=C.size
 ex:r.exact=true->l.cap=r.cells.length
 sz:l.sz=r.sz
 own:r.ro=false->Bqq<=l.cU
 fz:r.ro=false->fz=(0,0)
 cells:∀(i:R) (c:au),r.cells[i]? =some c->∃x,C[l.off+i]? =some x/\bW ρ c x
def Ch.mono{r:Row}{l:Loc}(h:Ch Bqq ρ r l C fz)(e:sS ρ ρ'):Ch Bqq ρ' r l C fz:=⟨h.len,h.cap,h.ex,h.sz,h.own,h.fz,λ i c y=>let⟨x,hx,u⟩:=h.cells i c y;⟨x,hx,CF e _ _ u⟩⟩
def LD(ru u:Row)(lu y:Loc):Prop:=lu.cU=y.cU->(ru.ro=V/\u.ro=V)\/(ru.ro=W/\u.ro=W/\ru.aI=u.aI/\lu.off+u.start=y.off+ru.start)
theorem LD.symm{ru u:Row}{lu y:Loc}(h:LD ru u lu y):LD u ru y lu:=λ e=>by
 rcases h e.symm with⟨a,b⟩|⟨a⟩
 .exact .inl ⟨b,a⟩
 grind
structure gP (Bqq ng:R) (ρ:dO) (obj:fE) (aI:vd) (h:abB Obj):Prop where
 base:Bqq<=h.size
 lW:∀g,g<ng->∃c s,ρ g=some ⟨g,0,c,s⟩
 row:∀v r,obj v=some r->∃l C e fz,ρ v=some l/\h[l.cU]? =some (.cells C e fz)/\Ch Bqq ρ r l C fz
 sep:∀u v ru rv lu lv,u≠v->obj u=some ru->obj v=some rv->ρ u=some lu->ρ v=some lv->LD ru rv lu lv
 aI:∀v r mem,obj v=some r->r.ro=false->aI r.aI=some mem->v∈mem
theorem RG{o:Obj}(e:h[b]? =O o):b<h.size:=by grind
def gP.mono(s:gP Bqq ng ρ obj aI h)(e:sS ρ ρ'):gP Bqq ng ρ' obj aI h where
 base:=s.base
 lW:=λ g F=>let⟨c,z,k⟩:=s.lW g F;⟨c,z,e _ _ k⟩
 row:=λ v r y=>let⟨l,C,t,fz,A,J,ok⟩:=s.row v r y;⟨l,C,t,fz,e _ _ A,J,ok.mono e⟩
 sep:=λ u v ru D lu K ne hu y eu ev=>by obtain⟨l,_,_,_,A,_⟩:=s.row u ru hu;obtain⟨m,_,_,_,hm,_⟩:=s.row v D y;have h1:=e _ _ A;rw[eu]at h1;cases h1;have h2:=e _ _ hm;rw[ev]at h2;cases h2;exact s.sep u v ru D _ _ ne hu y A hm
 aI:=s.aI
def gP.sub(s:gP Bqq ng ρ obj aI h)
 (D:∀v r,obj' v=O r->obj v=O r) (K:∀f mem,fam' f=O mem->∀v r,obj' v=O r->r.ro=W->r.aI=f->v∈mem):gP Bqq ng ρ obj' fam' h where
 base:=s.base
 lW:=s.lW
 row:=λ v r y=>s.row v r (D v r y)
 sep:=λ u v ru F lu J ne hu y eu ev=>s.sep u v ru F lu J ne (D u ru hu) (D v F y) eu ev
 aI:=λ v r _ y A hm=>K _ _ hm v r y A Q
theorem gP.avA{A:abB Obj}(s:gP Bqq ng ρ obj aI h)
 {F:kA} (S:h[b]? =O (.cells C e fz)) (K:A[b]? =O (.cells F e fz)) (Y:F.size=C.size)
 (J:A.size=h.size) (ho:∀k,k≠b->A[k]? =h[k]?)
 (hr:∀u ru lu,obj u=O ru->ρ u=O lu->lu.cU=b->∀i,i<ru.cells.length->F[lu.off+i]? =C[lu.off+i]?):gP Bqq ng ρ obj aI A where
 base:=J▸s.base
 lW:=s.lW
 row:=λ v r M=>by
  obtain⟨l,D,t,Z,N,y,ok⟩:=s.row v r M;by_cases e1:l.cU=b;.rw[e1,S]at y;cases y;refine⟨l,F,e,fz,N,e1▸K,⟨ok.len,Y▸ok.cap,ok.ex,ok.sz,ok.own,ok.fz,λ i c P=>?_⟩⟩;obtain⟨x⟩:=ok.cells i c P;grind
  grind
 sep:=s.sep
 aI:=s.aI
theorem gP.push(s:gP Bqq ng ρ obj aI h)(o:Obj):gP Bqq ng ρ obj aI (h.push o)where
 base:=by simp;have:=s.base;omega
 lW:=s.lW
 row:=λ v r u=>by obtain⟨l⟩:=s.row v r u;grind
 sep:=s.sep
 aI:=s.aI
theorem gP.NO(s:gP Bqq ng ρ obj aI h)
 (id:R) (l:Loc) (r:Row) (J:ρ id=O l) (M:h[l.cU]? =O (.cells C e fz)) (ok:Ch Bqq ρ r l C fz)
 (D:∀u ru lu,u≠id->obj u=O ru->ρ u=O lu->LD ru r lu l)
 (F:∀v y mem,iH obj id (O r) v=O y->y.ro=W->fam' y.aI=O mem->v∈mem):gP Bqq ng ρ (iH obj id (O r)) fam' h where
 base:=s.base
 lW:=s.lW
 row:=λ v y A=>by
  by_cases e1:id=v;.grind[iW]
  rw[gO _ e1]at A;exact s.row v y A
 sep:=λ u v ru y lu K ne hu A eu ev=>by
  by_cases e1:id=u;.subst e1;rw[iW]at hu;cases hu;rw[gO _ ne]at A;rw[J]at eu;cases eu;exact(D v y K (Es ne) A ev).symm
  rw[gO _ e1]at hu;by_cases e2:id=v;.grind[iW]
  rw[gO _ e2]at A;exact s.sep u v ru y lu K ne hu A eu ev
 aI:=F
abbrev jU(Bqq ng:R)(ρ:dO)(H:aj)(w:cG):Prop:=gP Bqq ng ρ H.ah.get H.aV.get w.heap
structure cW (Bqq ng:R) (obj:fE) (lo hi:R) (ρ:dO) (w:cG) (obj':fE) (fam':vd) (ρ':dO) (w':cG):Prop where
 cA:gP Bqq ng ρ' obj' fam' w'.heap
 ext:∀v,¬(lo<=v/\v<hi)->ρ' v=ρ v
 os:w'.os=w.os
 tape:w'.tape=w.tape
 output:w'.output=w.output
 size:w.heap.size<=w'.heap.size
 vT:∀b,b<w.heap.size->(∀v r l,obj v=some r->r.ro=false->ρ v=some l->l.cU≠b)->w'.heap[b]? =w.heap[b]?
 tl:∀v r l,obj' v=some r->r.ro=false->ρ' v=some l->w.heap.size<=l.cU\/∃u ru lu,obj u=some ru/\ru.ro=false/\ρ u=some lu/\lu.cU=l.cU
 vq:∀v r,obj' v=some r->r.ro=true->obj v=some r
def ll(ρ:dO)(lo hi:R):Prop:=∀v,lo<=v->v<hi->ρ v=X
def cW.O7{w:cG}
 (c:cW Bqq ng obj lo hi ρ w obj' fam' ρ' w') (u:ll ρ lo hi):sS ρ ρ':=λ v l e=>by
 rw[c.ext v (λ ⟨a,b⟩=>by rw[u v a b]at e;cases e)];exact e
theorem cW.refl{w:cG}(s:gP Bqq ng ρ obj aI w.heap)(lo hi:R):cW Bqq ng obj lo hi ρ w obj aI ρ w where
 cA:=s
 ext:=λ _ _=>rfl
 os:=rfl
 tape:=rfl
 output:=rfl
 size:=aZ _
 vT:=λ _ _ _=>rfl
 tl:=λ v r l a b c=>.inr ⟨v,r,l,a,b,c,Q⟩
 vq:=λ _ _ h _=>h
theorem cW.trans{D:R}{w:cG}
 (a:cW Bqq ng obj lo D ρ w obj₁ fam₁ ρ₁ w₁) (b:cW Bqq ng obj₁ D hi ρ₁ w₁ obj₂ fam₂ ρ₂ w₂) (h1:lo<=D) (h2:D<=hi):cW Bqq ng obj lo hi ρ w obj₂ fam₂ ρ₂ w₂ where
 cA:=b.cA
 ext:=λ v h=>by rw[b.ext v (λ ⟨x,y⟩=>h ⟨by omega,y⟩),a.ext v (λ ⟨x,y⟩=>h ⟨x,by omega⟩)]
 os:=b.os.trans a.os
 tape:=b.tape.trans a.tape
 output:=b.output.trans a.output
 size:=fI a.size b.size
 vT:=λ k P N=>by
  rw[b.vT k (by have:=a.size;omega) ?_,a.vT k P N];intro v r l F A K e;rcases a.tl v r l F A K with h|⟨u⟩
  .omega
  grind
 tl:=λ v r l F A K=>by
  rcases b.tl v r l F A K with h|⟨u,ru,lu,hu,M,J,S⟩
  .have:=a.size;omega
  rcases a.tl u ru lu hu M J with h|⟨Y⟩
  .omega
  grind
 vq:=λ v r h k=>a.vq v r (b.vq v r h k) k
theorem cW.Sv{w:cG}
 (a:cW Bqq ng obj lo hi ρ w obj₁ fam₁ ρ₁ w₁) (b:cW Bqq ng obj₁ lo hi ρ₁ w₁ obj₂ fam₂ ρ₂ w₂):cW Bqq ng obj lo hi ρ w obj₂ fam₂ ρ₂ w₂ where
 cA:=b.cA
 ext:=λ v h=>by rw[b.ext v h,a.ext v h]
 os:=b.os.trans a.os
 tape:=b.tape.trans a.tape
 output:=b.output.trans a.output
 size:=fI a.size b.size
 vT:=λ k M K=>by
  rw[b.vT k (by have:=a.size;omega) ?_,a.vT k M K];intro v r l A y F e;rcases a.tl v r l A y F with h|⟨u⟩
  .omega
  grind
 tl:=λ v r l A y F=>by
  rcases b.tl v r l A y F with h|⟨u,ru,lu,hu,J,D,N⟩
  .have:=a.size;omega
  rcases a.tl u ru lu hu J D with h|⟨P⟩
  .omega
  grind
 vq:=λ v r h k=>a.vq v r (b.vq v r h k) k
def cW.ant{u y:R}{w:cG}
 (c:cW Bqq ng obj lo hi ρ w obj' fam' ρ' w') (h1:u<=lo) (h2:hi<=y):cW Bqq ng obj u y ρ w obj' fam' ρ' w':=
 {c with ext:=λ v h=>c.ext v (λ k=>h ⟨aa,aa⟩)}
def cW.below{w:cG}
 (s:gP Bqq ng ρ obj aI w.heap) (c:cW Bqq ng obj lo hi ρ w obj' fam' ρ' w'):∀k,k<Bqq->w'.heap[k]? =w.heap[k]? :=λ k D=>
 c.vT k (eU D s.base) λ v r l y u A e=>by obtain⟨m,C,t,fz,hm,F,ok⟩:=s.row v r y;rw[A]at hm;cases hm;have:=ok.own u;omega
end
section
variable{C:kA}{a:R}{e:bj}{aI:vd}{obj:fE}{xs:jZ}
theorem iT(h:th a b=V):a<=b:=Hc h
theorem aaY(h:th a b=W):b<a:=by grind[Nat.ble_eq_true_of_le]
theorem beq_true(h:gr a b=V):a=b:=cI h
theorem beq_false(h:gr a b=W):a≠b:=by grind[Nat.beq_refl]
theorem AL:∀(mem:bG) (ah:kH) (u:R) (r:Row),(oq ah v lo hi mem).get u=O r->
 ah.get u=O r/\(u∈mem->u≠v->hi<=r.start\/r.start+r.cells.length<=lo)
 |[],ah,u,r,h=>⟨h,nofun⟩
 |a::mem,ah,u,r,h=>by
  rw[oq]at h;split at h;.rename_i e;have e:=beq_true e;obtain⟨h1⟩:=AL mem ah u r h;grind
  split at h;.obtain⟨h1⟩:=AL mem ah u r h;grind
  split at h;.obtain⟨h1⟩:=AL mem _ u r h;grind[Tr.jg]
  obtain⟨h1⟩:=AL mem ah u r h;grind[iT]
theorem yE:∀(mem:bG) (ah:kH) (u:R) (r:Row),(tK ah lo mem).get u=O r->
 ah.get u=O r/\(u∈mem->r.start+r.cells.length<=lo)
 |[],ah,u,r,h=>⟨h,nofun⟩
 |a::mem,ah,u,r,h=>by
  rw[tK]at h;split at h;.obtain⟨h1⟩:=yE mem ah u r h;grind
  split at h;.obtain⟨h1⟩:=yE mem ah u r h;grind[iT]
  obtain⟨h1⟩:=yE mem _ u r h;grind[Tr.jg]
variable{Bqq ng:R}{ρ:dO}
theorem Xe{w w':cG}(s:gP Bqq ng ρ obj aI w.heap){id:R}(ae:ρ id=X)
 (P:∀v r,obj v=O r->v≠id/\r.aI≠id) (cells:aF) (exact:mi) (sz cap:R) {C:kA} {e:bj} (hC:C.size=cap) (K:cells.length<=cap)
 (S:exact=V->cap=cells.length) (ab:∀(i:R) (c:au),cells[i]? =O c->∃x,C[i]? =O x/\bW ρ c x)
 (Z:w'.heap=w.heap.push (.cells C e (0,0))) (N:w'.os=w.os) (A:w'.tape=w.tape) (J:w'.output=w.output):
 cW Bqq ng obj id (id+1) ρ w (iH obj id (O ⟨cells,id,0,exact,W,sz⟩)) (iH aI id (O [id])) (iH ρ id (O ⟨w.heap.size,0,cap,sz⟩)) w':=by
 have y:sS ρ (iH ρ id (O ⟨w.heap.size,0,cap,sz⟩)):=λ v l h=>by grind[gO]
 refine⟨?_,λ v F=>gO _ aa _,N,A,J,by rw[Z];simp,λ b hb _=>bP,λ v r l F D hl=>?_,λ v r F D=>?_⟩
 .rw[Z];refine((s.mono y).push _).NO id _ _ (iW _ _ _) (C:=C) (e:=e) (fz:=(0,0)) aw ?_ ?_ ?_;.refine⟨K,by simp[hC],S,Q,λ _=>s.base,λ _=>rfl,λ i c hc=>?_⟩;grind[CF]
  .intro u ru lu hu M ad ac;obtain⟨l⟩:=(s.mono y).row u ru M;grind
  intro v Y mem F D hm;by_cases e1:id=v;.grind[iW]
  rw[gO _ e1]at F;rw[gO _ (Es (P v Y F).2)]at hm;exact s.aI v Y mem F D hm
 .grind[iW,gO]
 grind[iW,gO]
theorem N2(cs new:aF)(off:R)(h:off+new.length<=cs.length):(eV cs off new).length=cs.length:=by simp[eV];omega
theorem aaR(u new:B α)(off i:R)(h:off+new.length<=u.length):
 (u.take off++new++u.drop (off+new.length))[i]? =if off<=i/\i<off+new.length then new[i-off]?else u[i]? :=by
 grind[List.getElem?_append_right]
theorem Pj(w:cG)(g:R)(C u:kA)(e:bj)(fz:sj)(h:w.heap[g]? =O (.cells C e fz)):(w.setRow g u).heap[g]? =O (.cells u e fz):=by grind[World.setRow]
theorem Us(w:cG)(g k:R)(u:kA)(h:k≠g):(w.setRow g u).heap[k]? =w.heap[k]? :=by grind[World.setRow]
def putRow(w:cG)(b at_:R)(C:kA)(xs:jZ):cG:=w.setRow b (C.toList.take at_++xs++C.toList.drop (at_+xs.length)).toArray
theorem Oi(h:at_+xs.length<=C.size)(i:R):
 (C.toList.take at_++xs++C.toList.drop (at_+xs.length)).toArray[i]? =if at_<=i/\i<at_+xs.length then xs[i-at_]?else C[i]? :=by
 grind
def aqK(h:at_+xs.length<=C.size):
 (C.toList.take at_++xs++C.toList.drop (at_+xs.length)).toArray.size=C.size:=by
 simp;omega
theorem gP.put{w:cG}(s:gP Bqq ng ρ obj aI w.heap){fz:sj}
 (A:w.heap[b]? =O (.cells C e fz)) (xs:jZ) (y:at_+xs.length<=C.size)
 (J:∀u ru lu,obj u=O ru->ρ u=O lu->lu.cU=b->lu.off+ru.cells.length<=at_\/at_+xs.length<=lu.off):gP Bqq ng ρ obj aI (putRow w b at_ C xs).heap:=by
 refine s.avA A (Pj w b C _ e fz A) (aqK y) (by simp[putRow]) (λ k D=>Us w b k _ D) (λ u ru lu hu K F i hi=>?_);grind[Oi]
theorem TP{H H':aj}{w:cG}(s:jU Bqq ng ρ H w){new:aF}(h:write H v off new=O H')(hx:dS ρ new xs):
 ∃l C e,ρ v=O l/\w.heap[l.cU]? =O (.cells C e (0,0))/\l.off+off+xs.length<=C.size/\(∀x∈xs,x.oneCell'=V)/\H'.ae=H.ae/\cW Bqq ng H.ah.get H.ae H'.ae ρ w H'.ah.get H'.aV.get ρ (putRow w l.cU (l.off+off) C xs):=by
 unfold write at h;split at h<;>try cases h
 rename_i r P;split at h<;>try cases h
 rename_i mem J A S Y;have A:=iT A;obtain⟨l,C,e,fz,Z,hb,ok⟩:=s.row v r P;obtain rfl:=ok.fz J;have ak:=pY hx;have al:=ok.len;have af:=ok.cap;have F:l.off+off+xs.length<=C.size:=aa;refine⟨l,C,e,Z,hb,F,adm hx S,rfl,?_⟩;have sub:∀u ru,(oq H.ah v (r.start+off) (r.start+off+new.length) mem).get u=O ru->H.ah.get u=O ru:=λ u ru hu=>(AL mem _ u ru hu).1
 have ag:∀u ru lu,u≠v->(oq H.ah v (r.start+off) (r.start+off+new.length) mem).get u=O ru->ρ u=O lu->lu.cU=l.cU->
  lu.off+ru.cells.length<=l.off+off\/l.off+off+xs.length<=lu.off:=by
  intro u ru lu ne hu D K;have N:=sub u ru hu;rcases s.sep u v ru r lu l ne N P D Z K with⟨_,h2⟩|⟨h1,_,h3,h4⟩
  .rw[J]at h2;cases h2
  .have hm:u∈mem:=s.aI u ru mem N h1 (by rw[h3];exact Y);have:=(AL mem _ u ru hu).2 hm ne;omega
 let r':Row:={r with cells:=eV r.cells off new}
 have ac:gP Bqq ng ρ (iH (oq H.ah v (r.start+off) (r.start+off+new.length) mem).get v (O r')) H.aV.get (putRow w l.cU (l.off+off) C xs).heap:=by
  have s1:gP Bqq ng ρ (iH (oq H.ah v (r.start+off) (r.start+off+new.length) mem).get v X) H.aV.get w.heap:=by
   refine gP.sub s (λ u ru hu=>?_) (λ f m hm u ru hu y hf=>?_);.grind[iW,gO]
   by_cases e1:v=u;.grind[iW]
   rw[gO _ e1]at hu;subst hf;exact s.aI u ru m (sub u ru hu) y hm
  have s2:=s1.put (at_:=l.off+off) hb xs F (λ u ru lu hu D K=>by grind[iW,gO])
  have ab:iH (iH (oq H.ah v (r.start+off) (r.start+off+new.length) mem).get v X) v (O r')=iH (oq H.ah v (r.start+off) (r.start+off+new.length) mem).get v (O r'):=by grind[iW,gO]
  rw[<-ab];refine s2.NO v l r' Z (Pj w l.cU C _ e _ hb) ?_ ?_ ?_
  .refine⟨by grind[eV],bP,λ he=>by show l.cap=(eV r.cells off new).length;rw[N2 _ _ _ A];exact ok.ex he,ok.sz,ok.own,λ _=>rfl,λ i c M=>?_⟩
   have M:(eV r.cells off new)[i]? =O c:=M;unfold eV at M;rw[aaR _ _ _ _ A]at M;rw[Oi F];split at M;.grind[vL]
   rename_i hi;obtain⟨x,ai,ad⟩:=ok.cells i c M;grind
  .intro u ru lu ne hu D;rw[gO _ (Es ne)]at hu;have:=s.sep u v ru r lu l ne (sub u ru hu) P D Z;exact this
  intro u ru m hu y hm;by_cases e1:v=u;.subst e1;rw[iW]at hu;cases hu;exact s.aI _ r m P J hm
  rw[gO _ e1,gO _ e1]at hu;exact s.aI u ru m (sub u ru hu) y hm
 refine⟨by grind[yF],λ _ _=>rfl,rfl,rfl,rfl,by simp[putRow],λ b am hn=>?_,λ u ru lu hu y D=>?_,λ u ru hu y=>?_⟩
 .exact Us w l.cU b _ (Es (hn v r l P J Z))
 .grind[Tr.jg]
 grind[Tr.jg]
end
section
variable{cs:aF}{e t ty u:bj}{aI:vd}{obj:fE}
variable{P:aA}
theorem BO(b o n:R):(⟨b,o,X⟩:Addr).add n=⟨b,o+n,X⟩:=by grind[Addr.add]
def WZ(P:aA)(w:cG)(i:TypeInfo)(z:ye)(u:bj)(x:ye)(n:R)(fG:jZ):Prop:=
 (∃d,P.underlying u=O (.slice d)/\av6 x=Sem.pure n/\∀y:cG,y.heap=w.heap->(abM i.size n x).run P y=.ok fG.toArray y)\/
 (∃k A,P.underlying u=O (.int k)/\x=.int A (n:U)/\n<=1099511627776/\n*i.bytes<=1099511627776/\n*i.size≠0/\fG=(aaD z.cells n).toList)
def wrap_small(n:R)(h:n<=1099511627776):IntKind.i64.wrap (n:U)=n:=IntWalk.i64_in _ aa
theorem ac7(h:n*b<=1099511627776):¬(281474976710656<(n:U)*(b:U)):=by grind
theorem abW{z:ye}(K:P.underlying t=O (.slice e))(hi:P.info? e=O i)(Y:i.zero=O z)
 {w:cG} {x:ye} {fG:jZ} (hs:WZ P w i z u x n fG) (base:gw Addr) (A D:R) (y:A+n<=D) (w2:cG)
 (F:∀a,base=O a->(apF (a.add (A*i.size)) fG).run P w=.ok () w2) (J:base=X->w2=w):
 (Bs #[t,u] ty #[.slice base A D,x]).run P w=.ok (.slice base (A+n) D) w2:=by
 rcases hs with⟨d,hu,hl,hf⟩|⟨k,k',hu,rfl,S,N,M,rfl⟩
 .cases base;.have:=J Q;subst this;simp[Bs,j2 K,j2 hu,sizeOf,yn,hi,hl,y,hf]
  rename_i a;have:=F a Q;simp[Bs,j2 K,j2 hu,sizeOf,yn,hi,hl,y,hf,this]
 .have Z:=wrap_small n S;have h1:¬((n:U)<0):=aa;have h2:=ac7 N;cases base;.have:=J Q;subst this;simp[Bs,j2 K,j2 hu,sizeOf,yn,adE,hi,Y,y,ayN,adF,Z,h1,h2]
  rename_i a;have:=F a Q;simp[Bs,j2 K,j2 hu,sizeOf,yn,adE,hi,Y,y,ayN,adF,Z,h1,h2,M,this]
def ae9{k K:jT}(J:P.underlying t=O (.slice e))(hu:P.underlying u=O (.int k))(hi:P.info? e=O i)
 {w:cG} (base:gw Addr) (y A:R) (D:y<=A):
 (Bs #[t,u] ty #[.slice base y A,.int K 0]).run P w=.ok (.slice base y A) w:=by
 have F:IntKind.i64.wrap 0=0:=cB;cases base;.simp[Bs,j2 J,j2 hu,sizeOf,yn,hi,D,ayN,adF,F]
 .rename_i a;simp[Bs,j2 J,j2 hu,sizeOf,yn,hi,D,ayN,adF,F,apF]
theorem aFM{z:ye}(ht:P.underlying t=O (.slice e))(hi:P.info? e=O i)(Z:i.zero=O z)
 {w:cG} {x:ye} {fG:jZ} (hs:WZ P w i z u x n fG) (base:gw Addr) (y A:R) (hg:A<y+n) (hb:(y+n)*i.bytes<=1099511627776) (hn:y+n<=1099511627776)
 (D:jZ) (ho:(abM i.size y (.slice base y A)).run P w.drew=.ok D.toArray w.drew):
 (Bs #[t,u] ty #[.slice base y A,x]).run P w=.ok (.slice (O ⟨w.heap.size,0,X⟩) (y+n) (abl w (y+n) A e)) (w.drew.alloc (.cells (D.toArray++fG.toArray++aaD z.cells (abl w (y+n) A e-(y+n))) e)):=by
 have K:¬(y+n<=A):=aa;have F:¬(9223372036854775807<((y:U)+(n:U))):=aa;have J:¬(281474976710656<Builtin.nextslicecap (y+n) A*i.bytes):=by have:=uI i.bytes (nextslicecap_le hg);grind
 rcases hs with⟨d,hu,hl,Y⟩|⟨k,k',hu,rfl,S,N,M,rfl⟩
 .have Y:=Y w.drew Q;simp[Bs,j2 ht,j2 hu,sizeOf,yn,adE,hi,Z,hl,K,F,J,Question.forced,Y,ho,newRow,abl];grind
 .have hw:=wrap_small n S;have h1:¬((n:U)<0):=aa;have h2:=ac7 N;simp[Bs,j2 ht,j2 hu,sizeOf,yn,adE,hi,Z,K,F,J,Question.forced,ho,newRow,abl,ayN,adF,hw,h1,h2,M]
def WF(H:aj):Prop:=∀v r,H.ah.get v=O r->v<H.ae/\r.aI<H.ae
variable{Bqq ng:R}{ρ:dO}
theorem Il(s:gP Bqq ng ρ obj aI h)(y:aQ obj v off n=O cs):
 ∃l C e fz A,ρ v=O l/\h[l.cU]? =O (.cells C e fz)/\cs.length=n/\dS ρ cs A/\A.length=n/\∀j x,A[j]? =O x->C[l.off+off+j]? =O x:=by
 unfold aQ at y;split at y<;>try cases y
 rename_i r F;split at y<;>cases y;rename_i u;have u:=iT u;obtain⟨l,C,e,fz,K,N,ok⟩:=s.row v r F;have D:=ok.cap;have J:=ok.len;have M:∀j,j<n->∃x,C[l.off+off+j]? =O x/\∃c,r.cells[off+j]? =O c/\bW ρ c x:=by intro j P;obtain⟨x⟩:=ok.cells (off+j) _ (eg aa);grind
 refine⟨l,C,e,fz,(C.toList.drop (l.off+off)).take n,K,N,gD,by grind[LK],gD,λ j x hx=>?_⟩;grind
theorem aaC{w:cG}{o:R}{C:kA}{fz:sj}(h:w.heap[b]? =O (.cells C e fz))(j:R):w.cell? ((⟨b,o,X⟩:Addr).add j)=C[o+j]? :=by grind[BO,cell_of_row]
def Kn{s:au}{y:ye}(u:bW ρ s y)(h:lenOf s=O n):∃b c,y=.slice b n c/\av6 y=Sem.pure n:=by
 cases s with
 |aq=>simp[lenOf]at h;subst h;cases u;exact⟨X,0,Q,Q⟩
 |eY=>simp[lenOf]at h;subst h;obtain⟨a,c,rfl⟩:=u;exact⟨O a,c,Q,Q⟩
 |slice v off len lim=>
  simp[lenOf]at h;subst h;cases lim;.obtain⟨l,_,rfl⟩:=u;exact⟨_,_,Q,Q⟩
  rename_i c;obtain⟨l,_,rfl⟩:=u;exact⟨_,_,Q,Q⟩
 |_=>simp[lenOf]at h
theorem Ku{p:Prop}(h:p:=by assumption):p:=h
def O3{w:cG}(s:gP Bqq ng ρ obj aI w.heap){x:au}{xv:ye}(N:bW ρ x xv)(u:er obj sz n x=O cs):
 ∃A,dS ρ cs A/\cs.length=n*sz/\∀w':cG,w'.heap=w.heap->(abM sz n xv).run P w'=.ok A.toArray w':=by
 have zero:n=0->cs=[]->∀a len c,∃A,dS ρ cs A/\cs.length=n*sz/\∀w',w'.heap=w.heap->(abM sz n (.slice a len c)).run P w'=.ok A.toArray w':=by
  rintro rfl rfl a len c
  refine⟨[],Q,aw,λ w' _=>?_⟩;cases a<;>simp[abM,loadCells,loadCellsFrom]
 have Z:∀v off c l,aQ obj v off (n*sz)=O cs->ρ v=O l->∀len,∃A,dS ρ cs A/\cs.length=n*sz/\
  ∀w',w'.heap=w.heap->(abM sz n (.slice (O ⟨l.cU,l.off+off,X⟩) len c)).run P w'=.ok A.toArray w':=by
  intro v off c l hr K len;obtain⟨l',C,e,fz,A,J,hb,F,D,S,M⟩:=Il s hr;rw[K]at J;cases J;exact⟨A,D,F,λ w' Y=>(run_firstCells_some w' sz n _ len c A S (λ j y hy=>by rw[aaC (Y▸hb)];exact M j y hy))⟩
 cases x with
 |aq=>cases N;rw[er]at u;split at u<;>cases u;exact zero (beq_true Ku) Q _ _ _
 |eY=>obtain⟨a,c,rfl⟩:=N;rw[er]at u;split at u<;>cases u;exact zero (beq_true Ku) Q _ _ _
 |slice v off len lim=>
  rw[er]at u;split at u
  .cases lim;.obtain⟨l,K,rfl⟩:=N;exact Z v off _ l u K len
   rename_i c;obtain⟨l,K,rfl⟩:=N;exact Z v off _ l u K len
  cases u
 |_=>simp[er]at u
end
section
variable{e:bj}
variable{P:aA}{Bqq ng:R}{ρ:dO}
theorem Uv{y:fE}{aI:vd}(s:gP Bqq ng ρ y aI h){x:au}{xv:ye}{ex:mi}{c:R}(D:bW ρ x xv)(u:jy y sz x=O (ex,c)):
 ∃b n cap,xv=.slice b n cap/\c<=cap/\(ex=V->cap=c):=by
 cases x with
 |aq=>cases D;grind[jy]
 |slice v off len lim=>
  cases lim
  .obtain⟨l,M,rfl⟩:=D;rw[jy]at u;split at u<;>try cases u
   rename_i r K;split at u<;>cases u;rename_i F J;obtain⟨P,C,e,fz,A,S,ok⟩:=s.row v r K;rw[M]at A;cases A;have h1:=ok.sz;have h2:=ok.len;rw[beq_true F]at h1;rw[h1];refine⟨_,_,_,Q,Nat.div_le_div_right aa,λ N=>?_⟩;rw[ok.ex N]
  rename_i Y;obtain⟨l⟩:=D;grind[jy]
 |_=>simp[jy]at u
def axj(y fG:jZ)(z:kA)(u n cap sz:R)(D:y.length=u*sz)(F:fG.length=n*sz)(A:z.size=sz)(J:u+n<=cap):
 (y.toArray++fG.toArray++aaD z (cap-(u+n))).size=cap*sz:=by
 simp[size_zeroCells,D,F,A];rw[<-qO,<-qO]
 congr 1
 omega
theorem agC{u fG:jZ}{z:kA}{k:R}{cells:aF}(h:dS ρ cells (u++fG))(i:R)(c:au)(y:cells[i]? =O c):
 ∃x,(u.toArray++fG.toArray++aaD z k)[i]? =O x/\bW ρ c x:=by
 grind[vL]
def agk{len:R}{lim:bA}{b:gw Addr}{cap:R}(h:bW ρ (.slice v off len lim) (.slice b n cap))(m:R):
 bW ρ (.slice v off m lim) (.slice b m cap)/\∃l,ρ v=O l/\b=O ⟨l.cU,l.off+off,X⟩:=by
 cases lim;.obtain⟨l,u,⟨⟩⟩:=h;exact⟨⟨l,u,Q⟩,l,u,Q⟩
 .rename_i c;obtain⟨l,u,⟨⟩⟩:=h;exact⟨⟨l,u,Q⟩,l,u,Q⟩
theorem Sa{w:cG}{o:R}{C:kA}(A:w.heap[b]? =O (.cells C e (0,0))){u:jZ}(y:o+u.length<=C.size)(h1:∀x∈u,x.oneCell'=V):
 (apF ⟨b,o,X⟩ u).run P w=.ok () (putRow w b o C u):=by
 grind[run_storeCells_at,putRow]
theorem ahI{H H':aj}{w:cG}(s:jU Bqq ng ρ H w)(wf:WF H){t u ty e:bj}{z:ye}(ht:P.underlying t=O (.slice e))(hi:P.info? e=O i)(hz:i.zero=O z)
 (aS:z.cells.size=i.size) (aU:0<i.size) {sa:au} {sv xv:ye} (ag:bW ρ sa sv) {new:aF} {fG:jZ} (ac:dS ρ new fG) (bg:new.length=n*i.size)
 (al:WZ P w i z u xv n fG) {v:au} (h:gM H i.size i.bytes sa n new=O (v,H')) (ar:ll ρ H.ae H'.ae):
 ∃x aH w',(Bs #[t,u] ty #[sv,xv]).run P w=.ok x w'/\bW aH v x/\cW Bqq ng H.ah.get H.ae H'.ae ρ w H'.ah.get H'.aV.get aH w':=by
 unfold gM at h;split at h<;>try cases h
 rename_i y ex c hl Y;obtain⟨base,n',cap,rfl,bl,ay⟩:=Uv s ag Y;obtain⟨aG,c',he,br⟩:=Kn ag hl;injection he with e1 e2 e3;obtain rfl:y=n':=e2.symm;clear e1 e3 aG c';have bo:=pY ac;split at h
 ·
  rename_i J;have J:=iT J;split at h;.cases h;cases ag;have aR:n<=0:=bP;obtain rfl:n=0:=aa;exact⟨_,ρ,w,abW ht hi hz al none 0 0 (aZ _) w (λ a ha=>bk) (λ _=>rfl),rfl,cW.refl s _ _⟩
  .rename_i v' off sLen' lim;split at h;.rename_i H1 hw;cases h;obtain⟨l,C,e',bu,hb,ad,aL,aY,bi⟩:=TP s hw ac;obtain⟨a1,l2,bt,rfl⟩:=agk ag (y+n);grind[abW,BO,Sa]
   cases h
  cases h
 .rename_i J;have J:=aaY J;split at h
  .rename_i K aM ao;have ax:(y+n)*i.bytes<=1099511627776:=iT (adQ.1 ao).1;have an:y+n<=1099511627776:=iT (adQ.1 ao).2;obtain⟨D,aK,bn,aX⟩:=O3 (P:=P) s ag aM;have be:=pY aK
   have grow:cap<y+n->(Bs #[t,u] ty #[.slice base y cap,xv]).run P w=.ok (.slice (O ⟨w.heap.size,0,none⟩) (y+n) (abl w (y+n) cap e))
    (w.drew.alloc (.cells (D.toArray++fG.toArray++aaD z.cells (abl w (y+n) cap e-(y+n))) e)):=λ hg=>
    aFM ht hi hz al base y cap hg ax an D (aX w.drew rfl)
   have a3:=grownCap_ge w (y+n) cap e;have bc:=axj D fG z.cells y n (abl w (y+n) cap e) i.size aa aa aS a3;have am:dS ρ (K++new) (D++fG):=L6 aK ac;have aq:(K++new).length<=abl w (y+n) cap e*i.size:=by grind
   have bh:abl w (y+n) cap e*i.size/i.size=abl w (y+n) cap e:=UD _ aU;have aT:(w.drew.alloc (.cells (D.toArray++fG.toArray++aaD z.cells (abl w (y+n) cap e-(y+n))) e)).heap=w.heap.push (.cells (D.toArray++fG.toArray++aaD z.cells (abl w (y+n) cap e-(y+n))) e (0,0)):=rfl;split at h
   ·
    rename_i bv;cases h;have a7:=ay rfl;have aO:ρ H.ae=none:=ar H.ae (aZ _) (kF _);have a6:=Xe s aO (λ v r hv=>⟨Oo (wf v r hv).1,Oo (wf v r hv).2⟩) (K++new) W i.size (abl w (y+n) cap e*i.size) bc aq (λ k=>bk) (λ j c Y=>agC am j c Y) aT rfl rfl rfl;refine⟨_,iH ρ H.ae (O ⟨w.heap.size,0,abl w (y+n) cap e*i.size,i.size⟩),_,grow aa,?_,?_⟩;.refine⟨_,iW _ _ _,?_⟩;grind
    show cW Bqq ng H.ah.get H.ae (H.ae+1) ρ w (H.ah.set H.ae _).get (H.aV.set H.ae _).get _ _;rw[yF,yF];exact a6
   split at h
   .rename_i v' off sLen';split at h
    .rename_i r hr;split at h
     .rename_i mem ai aL ap;cases h;obtain rfl:y=sLen':=by simpa[lenOf]using hl.symm
      obtain⟨l,ak,a4⟩:=ag;injection a4 with ba bp a9;subst ba;subst a9;obtain⟨l',C,e',fz,aB,hb,ok⟩:=s.row v' r hr;rw[ak]at aB;cases aB;obtain rfl:=ok.fz ai;have aO:ρ H.ae=none:=ar H.ae (aZ _) (kF _);have sub:∀u ru,(tK H.ah (r.start+off+y*i.size) mem).get u=O ru->H.ah.get u=O ru:=λ u ru hu=>(yE mem _ u ru hu).1
      have a5:=ok.sz;have aW:r.sz=i.size:=by grind[jy,beq_true]
      have az:l.sz=i.size:=by rw[a5,aW]
      let id:=H.ae
      have av:∀u ru m,iH (tK H.ah (r.start+off+y*i.size) mem).get id (O ⟨K++new,r.aI,r.start+off,W,W,i.size⟩) u=O ru->ru.ro=W->
       iH H.aV.get r.aI (O (id::mem)) ru.aI=O m->u∈m:=by
       intro u ru m hu A hm;by_cases e1:id=u;.grind[iW]
       .rw[gO _ e1]at hu;have N:=sub u ru hu;by_cases e2:r.aI=ru.aI;.rw[<-e2,iW]at hm;cases hm;exact cV _ (s.aI u ru mem N A (by rw[<-e2];exact ap))
        rw[gO _ e2]at hm;exact s.aI u ru m N A hm
      have Z:∀u ru,((tK H.ah (r.start+off+y*i.size) mem).set H.ae (O ⟨K++new,r.aI,r.start+off,W,W,i.size⟩)).get u=O ru->ru.ro=V->H.ah.get u=O ru:=by grind[Tr.jg]
      by_cases aD:y+n<=(l.cap-off)/l.sz
      ·
       have aE:(y+n)*i.size<=l.cap-off:=by rw[az]at aD;exact fI (uI _ aD) (Nat.div_mul_le_self _ _)
       rw[qO]at aE;have a8:=ok.cap;by_cases bf:off<=l.cap
       .have ad:l.off+off+y*i.size+fG.length<=C.size:=aa;have aJ:=abW (ty:=ty) ht hi hz al (O ⟨l.cU,l.off+off,none⟩) y ((l.cap-off)/l.sz) aD (putRow w l.cU (l.off+off+y*i.size) C fG) (λ a ha=>by grind[BO,Sa,adm]) (λ ha=>bk)
        let F:Loc:=⟨l.cU,l.off+off,l.cap-off,i.size⟩
        have S:sS ρ (iH ρ id (O F)):=λ x lx hx=>by grind[gO]
        have s1:gP Bqq ng ρ (tK H.ah (r.start+off+y*i.size) mem).get H.aV.get w.heap:=gP.sub s sub (λ f m hm u ru hu A hf=>by subst hf;exact s.aI u ru m (sub u ru hu) A hm)
        have s2:=s1.put (at_:=l.off+off+y*i.size) hb fG ad (λ u ru lu hu M af=>by
         have N:=sub u ru hu;by_cases e1:u=v';.subst e1;rw[hr]at N;cases N;rw[ak]at M;cases M;have:=(yE mem _ u r hu).2 (s.aI u r mem hr ai ap);omega
         rcases s.sep u v' ru r lu l e1 N hr M ak af with⟨_,h2⟩|⟨h1,_,h3,h4⟩
         .rw[ai]at h2;cases h2
         have:=(yE mem _ u ru hu).2 (s.aI u ru mem N h1 (by rw[h3];exact ap));omega)
        have s3:=(s2.mono S).NO (fam':=iH H.aV.get r.aI (O (id::mem))) id F ⟨K++new,r.aI,r.start+off,W,W,i.size⟩ (iW _ _ _) (Pj w l.cU C _ e' _ hb) ?_ ?_ av
        .refine⟨_,iH ρ id (O F),_,aJ,⟨F,iW _ _ _,?_⟩,?_⟩;.simp[F,az]
         refine⟨by grind[yF],λ x hx=>gO _ (λ k=>bP) _,rfl,rfl,rfl,by simp[putRow],λ b bb a0=>Us w l.cU b _ (Es (a0 v' r l hr ai ak)),λ u ru lu hu A M=>?_,λ u ru hu A=>Z u ru hu A⟩
         grind[Tr.jg,iW,gO]
        .refine⟨?_,?_,(λ k=>bk),rfl,λ _=>ok.own ai,λ _=>rfl,λ j c Y=>?_⟩;.grind
         .grind
         have Y:(K++new)[j]? =O c:=Y;by_cases hj:j<y*i.size
         .rw[AV aa]at Y;obtain⟨l3,C3,e3,bz,bm,aN,aP,_,aC,bd,a2⟩:=Il s (show aQ H.ah.get v' off (y*i.size)=O K from by grind[er])
          rw[ak]at aN;cases aN;rw[hb]at aP;cases aP;obtain⟨x,hx,ab⟩:=vL aC Y;refine⟨x,?_,CF S _ _ ab⟩;rw[Oi ad];grind
         rw[uH aa]at Y;obtain⟨x,hx,ab⟩:=vL ac Y;refine⟨x,?_,CF S _ _ ab⟩;have bq:j-K.length<fG.length:=(pC.1 hx).1;rw[Oi ad];grind
        intro u ru lu ne hu M af;have N:=sub u ru hu;rw[gO _ (Es ne)]at M;by_cases e1:u=v';.grind
        rcases s.sep u v' ru r lu l e1 N hr M ak af with⟨_,h2⟩|⟨h1,_,h3,h4⟩
        .rw[ai]at h2;cases h2
        grind
       exfalso;simp only[jy,hr]at Y;split at Y;.rename_i ho;have:=iT ho;have:=ok.len;omega
       cases Y
      ·
       have hg:(l.cap-off)/l.sz<y+n:=aa
       let F:Loc:=⟨w.heap.size,0,abl w (y+n) ((l.cap-off)/l.sz) e*i.size,i.size⟩
       have S:sS ρ (iH ρ id (O F)):=λ x lx hx=>by grind[gO]
       have s1:gP Bqq ng ρ (tK H.ah (r.start+off+y*i.size) mem).get H.aV.get w.heap:=gP.sub s sub (λ f m hm u ru hu A hf=>by subst hf;exact s.aI u ru m (sub u ru hu) A hm);have s3:=((s1.mono S).push (.cells (D.toArray++fG.toArray++aaD z.cells (abl w (y+n) ((l.cap-off)/l.sz) e-(y+n))) e (0,0))).NO (fam':=iH H.aV.get r.aI (O (id::mem))) id F ⟨K++new,r.aI,r.start+off,W,W,i.size⟩ (iW _ _ _) (C:=D.toArray++fG.toArray++aaD z.cells (abl w (y+n) ((l.cap-off)/l.sz) e-(y+n))) (e:=e) (fz:=(0,0)) (by simp[F]) ?_ ?_ av
       .refine⟨_,iH ρ id (O F),_,grow hg,⟨F,iW _ _ _,?_⟩,?_⟩;.grind
        refine⟨by grind[yF],λ x hx=>gO _ (λ k=>bP) _,rfl,rfl,rfl,aw,λ b bb _=>?_,λ u ru lu hu A M=>?_,λ u ru hu A=>Z u ru hu A⟩
        .grind
        grind[Tr.jg,iW,gO]
       .refine⟨aq,?_,(λ k=>bk),rfl,λ _=>s.base,λ _=>rfl,λ j c Y=>?_⟩;.grind
        obtain⟨x,hx,ab⟩:=agC (z:=z.cells) (k:=abl w (y+n) ((l.cap-off)/l.sz) e-(y+n)) am j c Y;grind[CF]
       intro u ru lu ne hu M af;rw[gO _ (Es ne)]at M;obtain⟨l4,C4,e4,bx,bs,bw,_⟩:=s1.row u ru hu;grind
     cases h
    cases h
   cases h
  cases h
end
section
variable{T:aM}
variable{P:aA}{Bqq ng n:R}{ρ:dO}
def Dm(ng:R)(ρ:dO):Prop:=∀g,g<ng->∃c s,ρ g=O ⟨g,0,c,s⟩
theorem jq(A:hY ρ n T a.tmps)(u:Dm ng ρ){x:eN}{v:au}(h:cy ng T x=O v):bW ρ v (a.eval x):=by
 cases x with
 |tmp t=>cases h;exact A.get t
 |const c=>exact afb h
 |global g=>
  have h:vi X _ _=O v:=h;cases e:th _ ng;.rw[e]at h;cases h
  rw[e]at h;cases h;obtain⟨c,s,y⟩:=u g (iT e);exact⟨_,y,Q⟩
 |func f=>cases h;exact⟨[],[],Q,Q,Q⟩
def ZS{x:eN}{u:uF}:ni ng T (x::u)=Az (cy ng T x) (ni ng T u):=rfl
def Hh(D:hY ρ n T a.tmps)(A:Dm ng ρ):∀{y:uF} {u:aF},ni ng T y=O u->dS ρ u (y.map a.eval)
 |[],u,h=>by cases h;rfl
 |x::y,u,h=>by rw[ZS]at h;unfold Az at h;split at h<;>cases h;rename_i v l F J;exact ep.2 ⟨_,_,Q,jq D A F,Hh D A J⟩
theorem Yh(F:hY ρ n T a.tmps)(D:Dm ng ρ):∀{y:rK} {u:wi},qA ng T y=O u->
 u.map (·.1)=y.map (·.1)/\dS ρ (u.map (·.2)) (y.map λ p=>a.eval p.2)
 |[],u,h=>by rw[qA,AW]at h;subst h;exact⟨Q,Q⟩
 |(i,x)::y,u,h=>by
  rw[qA]at h;split at h;.rename_i v l J A;obtain⟨h1⟩:=Yh F D A;grind[ep,jq]
  cases h
theorem IE{t:bj}{z:au}(h:fW P t=O z):∃i v,P.info? t=O i/\i.zero=O v/\∀ρ,bW ρ z v:=by grind[fW,afb]
theorem aop(cells:kA)(off:R):∀(y:jZ) (k:R) (u:kA),off+k+y.length<=u.size->
 (y.zipIdx k).foldl (λ (u:kA) (p:ye×R)=>u.setIfInBounds (off+p.2) p.1) u=(u.toList.take (off+k)++y++u.toList.drop (off+k+y.length)).toArray
 |[],k,u,_=>by simp
 |v::y,k,u,h=>by rw[List.zipIdx_cons,apA];simp at h;rw[aop cells off y _ _ gD];apply Oq;rw[Array.toList_setIfInBounds];apply sI;intro j;rw[aaR _ _ _ _ gD,rO];have:=aaR _ (v::y) _ j aa;rw[rO]at this;grind
theorem W7{A:R->lY}{u:R->lY}(hp:∀i p,A i=O p->u i=O p):
 ∀{l:wi} {l':B (R×ye)} {cells F:aF} {C:kA},l.map (·.1)=l'.map (·.1)->dS ρ (l.map (·.2)) (l'.map (·.2))->dS ρ cells C.toList->fill A cells l=O F->∃J,arR u C l'=O J/\dS ρ F J.toList/\J.size=C.size
 |[],l',cells,F,C,h1,_,P,h=>by
  rw[fill,AW]at h;subst h;cases l';.exact⟨C,Q,P,Q⟩
  simp at h1
 |(i,v)::l,l',cells,F,C,h1,h2,P,h=>by
  cases l';.simp at h1
  rename_i p l';obtain⟨j,x⟩:=p;simp at h1;obtain⟨rfl,h1⟩:=h1;obtain⟨y,ys,he,Y,Z⟩:=ep.1 h2;obtain⟨rfl⟩:=he;rw[fill]at h;split at h<;>try cases h
  rename_i off size aa;split at h<;>try cases h
  rename_i S D;have S:=beq_true S;have D:=iT D;have M:=DK Y;have K:=pY M;have N:=pY P;rw[arR];have hf:x.cells.zipIdx.foldl (λ F p=>F.setIfInBounds (off+p.2) p.1) C=(C.toList.take off++x.cells.toList++C.toList.drop (off+x.cells.toList.length)).toArray:=by rw[<-apB];simpa using(aop C off x.cells.toList 0 C (by simpa using(by simp at K N;omega)))
  obtain⟨J⟩:=W7 hp (C:=(C.toList.take off++x.cells.toList++C.toList.drop (off+x.cells.toList.length)).toArray) h1 Z (by grind[eV,L6,amT,agO]) h
  grind
end
section
variable{a b ix v:au}{op:BinOp}{t:bj}{y:eN}
variable{P:aA}{Bqq ng n:R}{ρ:dO}
def Q7{s:Sem ye}(h:uB s=O v):∃x,(∀ρ,bW ρ v x)/\∀(P:aA) w,s.run P w=.ok x w:=by
 cases s with
 |pure x=>exact⟨x,λ ρ=>XE h,λ P w=>rfl⟩
 |_=>cases h
theorem uO(op:BinOp)(t:bj)(x y:eN)(a b:ye)(h:∀(c d:kA),¬(a=.agg c/\b=.agg d))(h2:¬(a=.nilIface/\b=.nilIface))(w:cG):
 (asZ op t x y a b).run P w=.ok () w:=by
 unfold asZ;simp_all
theorem ahq(d:R):∀(fs:B auN) (k:R) (K J:aF) (A u:kA) (b:mi),IG P k fs=V->
 dS ρ K (A.toList.drop k)->dS ρ J (u.toList.drop k)->sh P fs K J=O b->∀w,(ash (d+1) A u fs).run P w=.ok b w
 |[],k,K,J,A,u,b,_,_,_,h,w=>by
  cases K
  .cases J;.simp only[sh,AW]at h;subst h;simp[ash]
   simp[sh]at h
  simp[sh]at h
 |f::fs,k,[],J,A,u,b,_,_,_,h,_=>by simp[sh]at h
 |f::fs,k,x::K,[],A,u,b,_,_,_,h,_=>by simp[sh]at h
 |f::fs,k,x::K,y::J,A,u,b,S,rx,ry,h,w=>by
  simp only[IG,bq]at S;obtain⟨⟨⟨h1,h2⟩,h3⟩,h4⟩:=S;have h2:=beq_true h2;obtain⟨p,ps,N,S,rp⟩:=ep.1 rx;obtain⟨q,qs,M,hq,rq⟩:=ep.1 ry
  have gx:A[k]? =O p:=by
   have:(A.toList.drop k)[0]? =O p:=by rw[N];rfl
   grind
  have gy:u[k]? =O q:=by
   have:(u.toList.drop k)[0]? =O q:=by rw[M];rfl
   grind
  have dx:dS ρ K (A.toList.drop (k+1)):=by
   have:A.toList.drop (k+1)=ps:=by rw[<-sJ,N];rfl
   rw[this];exact rp
  have dy:dS ρ J (u.toList.drop (k+1)):=by
   have:u.toList.drop (k+1)=qs:=by rw[<-sJ,M];rfl
   rw[this];exact rq
  have ih:=λ b' Z=>ahq d fs (k+1) K J A u b' h4 dx dy Z w
  have D:∀(c:kA) (r:ye),c[k]? =O r->(part f.type c f.offset).run P w=.ok r w:=by
   intro c r hc;rw[h2];cases hu:P.underlying f.type;.rw[hu]at h1;cases h1
   rename_i dd;rw[hu]at h1;cases dd<;>first|(cases h1;done)|simp[part,ap0,j2 hu,hc]
  simp only[ash,by simpa using h3,ne_eq,not_false_eq_true,KI,nr,D _ _ gx,D _ _ gy,sr];cases x with
  |int k1 a1=>
   cases y with
   |int k2 a2=>
    cases S;cases hq;simp only[sh]at h;split at h
    .rename_i kk hu Y;have Y:k1=k2:=jL Y;subst Y;split at h;.rename_i F;have F:a1=a2:=jL F;subst F;simp[aam,j2 hu,ih b h]
     rename_i F;cases h;simp[aam,j2 hu,tM F]
    cases h
   |_=>simp[sh]at h
  |bool b1=>
   cases y with
   |bool b2=>
    cases S;cases hq;simp only[sh]at h;split at h
    .rename_i hu;split at h
     .rename_i F;have F:b1=b2:=by simpa using F
      subst F;simp[aam,j2 hu,ih b h]
     rename_i F;cases h;simp[aam,j2 hu,F]
    cases h
   |_=>simp[sh]at h
  |_=>simp[sh]at h
set_option maxHeartbeats 4000000 in
def aEi(d:R)(A:bW ρ a p)(y:bW ρ b q)(h:nX P t a b=O r):∀w,(aam (d+1+1) t p q).run P w=.ok r w:=by
 intro w;unfold nX at h;split at h;.rename_i b1 b2 u;cases h;cases A;cases y;simp[aam,j2 u]
 .rename_i e u;cases h;cases A;cases y;simp[aam,j2 u]
 .rename_i e v off len lim u;cases h;cases A;cases lim<;>(obtain⟨l,N,rfl⟩:=y;simp[aam,j2 u])
 .rename_i e v off len lim u;cases h;cases y;cases lim<;>(obtain⟨l,N,rfl⟩:=A;simp[aam,j2 u])
 .rename_i e u;cases h;cases A;obtain⟨x,c,rfl⟩:=y;simp[aam,j2 u]
 .rename_i e u;cases h;cases y;obtain⟨x,c,rfl⟩:=A;simp[aam,j2 u]
 .rename_i e u;cases h;cases A;cases y;simp[aam,j2 u]
 .rename_i e v off u;cases h;cases A;obtain⟨l,N,rfl⟩:=y;simp[aam,j2 u]
 .rename_i e v off u;cases h;cases y;obtain⟨l,N,rfl⟩:=A;simp[aam,j2 u]
 .rename_i e1 e2 e3 u;cases h;cases A;cases y;simp[aam,j2 u]
 .rename_i e1 e2 e3 f c d u;cases h;cases A;obtain⟨M,K,rfl,_,_⟩:=y;simp[aam,j2 u]
 .rename_i e1 e2 e3 f c d u;cases h;cases y;obtain⟨M,K,rfl,_,_⟩:=A;simp[aam,j2 u]
 .rename_i fs M K u;split at h
  .rename_i h1 h2 Z h4 h5;obtain⟨F,rfl,Y⟩:=A;obtain⟨D,rfl,S⟩:=y;have J:P.fieldsOf t=fs:=by simp[Program.fieldsOf,u]
   rw[run_equalIn_struct w (d+1) t ⟨F⟩ ⟨D⟩ (by rw[J];exact u) h1,J];exact ahq d fs.toList 0 M K ⟨F⟩ ⟨D⟩ r Z (by simpa using Y) (by simpa using S) h w
  cases h
 cases h
def ami(y:bW ρ a p)(u:bW ρ b q)(h:nX P t a b=O r):∀w,(aot t p q).run P w=.ok r w:=aEi _ y u h
theorem binOp_eql(hi:∀k n u m,¬(p=.int k n/\q=.int u m))(y:∀a b,¬(p=.string a/\q=.string b))(A:∀k n u m,¬(p=.float k n/\q=.float u m))(D:∀k a b u c d,¬(p=.complex k a b/\q=.complex u c d)):
 aeQ .eql t p q=(do pure (.bool (<-aot t p q)):Sem ye)/\aeQ .neq t p q=(do pure (.bool (!(<-aot t p q))):Sem ye):=by
 cases p<;>cases q<;>first|exact⟨rfl,rfl⟩|grind
theorem am4{x:eN}(u:bW ρ a p)(A:bW ρ b q)(h:nX P t a b=O r):∀w,(asZ op t x y p q).run P w=.ok () w:=by
 unfold nX at h;split at h;.cases u;grind[uO]
 .cases u;grind[uO]
 .cases u;grind[uO]
 .cases A;grind[uO]
 .cases u;grind[uO]
 .cases A;grind[uO]
 .cases u;grind[uO]
 .cases u;grind[uO]
 .cases A;grind[uO]
 .cases u;grind[uO]
 .cases u;grind[uO]
 .cases A;grind[uO]
 .split at h;.rename_i h1 h2 N M h5;obtain⟨F,rfl,K⟩:=u;obtain⟨D,rfl,J⟩:=A;unfold asZ;cases op<;>simp[h2]
  cases h
 cases h
def alg:au->mi
 |.int .. =>W
 |.str _=>W
 |_=>V
theorem auo(u:bW ρ a p)(h:alg a=V):(∀k n,p≠.int k n)/\(∀s,p≠.string s)/\(∀k n,p≠.float k n)/\(∀k c d,p≠.complex k c d):=by
 cases a with
 |int k n=>cases h
 |str s=>cases h
 |slice v off len lim=>cases lim<;>(obtain⟨l,A,rfl⟩:=u;simp)
 |ptr v off=>obtain⟨l,A,rfl⟩:=u;simp
 |eY=>obtain⟨x,c,rfl⟩:=u;simp
 |func f c d=>obtain⟨y,F,rfl,_⟩:=u;simp
 |agg D=>obtain⟨y,rfl,_⟩:=u;simp
 |tuple D=>obtain⟨y,rfl,_⟩:=u;simp
 |bool b=>cases u;simp
 |fq=>cases u;simp
 |aq=>cases u;simp
 |nilFunc=>cases u;simp
 |iface=>rcases u with rfl|⟨_,_,rfl⟩<;>simp
theorem aGz(h:nX P t a b=O r):alg a=true:=by unfold nX at h;split at h<;>first|rfl|cases h
theorem aIg{x:eN}(F:bW ρ a p)(D:bW ρ b q)(h:cY P op t a b=O v):
 ∃r,bW ρ v r/\∀w,(do asZ op t x y p q;aeQ op t p q:Sem ye).run P w=.ok r w:=by
 unfold cY at h;split at h;.cases F;cases D;obtain⟨r,A,u⟩:=Q7 h;refine⟨r,A ρ,λ w=>?_⟩;rw[nr,uO op t x y _ _ (λ _ _ k=>by cases k.1) (λ k=>by cases k.1) w];exact u P w
 .cases F;cases D;obtain⟨r,A,u⟩:=Q7 h;refine⟨r,A ρ,λ w=>?_⟩;rw[nr,uO op t x y _ _ (λ _ _ k=>by cases k.1) (λ k=>by cases k.1) w];exact u P w
 .have J:∀r,nX P t a b=O r->aeQ .eql t p q=(do pure (.bool (<-aot t p q)))/\aeQ .neq t p q=(do pure (.bool (!(<-aot t p q)))):=by grind[auo,aGz,binOp_eql]
  split at h;.split at h<;>cases h;rename_i r A;refine⟨.bool r,Q,λ w=>?_⟩;rw[nr,am4 F D A w,sr,(J r A).1,nr,ami F D A w];rfl
  .split at h<;>cases h;rename_i r A;refine⟨.bool _,Q,λ w=>?_⟩;rw[nr,am4 F D A w,sr,(J r A).2,nr,ami F D A w];rfl
  cases h
def apY(D:bW ρ a p)(h:Bt (O a)=O v):v=a/\∀(y:eN->ye) (o:Oper) (x:eN),o.op=.nilCheck x->y x=p->∀w,(MO y o).run P w=.ok (.value p) w:=by
 cases a with
 |ptr u off=>
  cases h;obtain⟨l,K,rfl⟩:=D;refine⟨Q,λ y o x A hx w=>?_⟩;simp[MO,A,hx]
 |func f c d=>
  cases h;obtain⟨J,F,rfl,_⟩:=D;refine⟨Q,λ y o x A hx w=>?_⟩;simp[MO,A,hx]
 |_=>cases h
def auj{s:bj}{f:R}(J:bW ρ a p)(h:fO P s a f=O v):∃r,bW ρ v r/\∀w,(axx s p f).run P w=.ok r w:=by
 unfold fO at h;split at h<;>try cases h
 rename_i fs u off D;obtain⟨l,F,rfl⟩:=J;split at h
 .rename_i fd A;split at h;.rename_i i hi;split at h<;>cases h;rename_i y;refine⟨.pointer _,⟨l,F,Q⟩,λ w=>?_⟩;simp[axx,j2 D,by simpa using A,adI,fieldPlace,sizeOf,yn,hi,beq_false y,BO]
  cases h
 cases h
def are(J:bW ρ a p)(hi:bW ρ ix q)(h:iL P t a ix=O v):∃r,bW ρ v r/\∀w,(aiA t p q).run P w=.ok r w:=by
 unfold iL at h;split at h
 .rename_i len e u off k i D;obtain⟨l,A,rfl⟩:=J;cases hi;split at h<;>try cases h
  rename_i j y F;have y:=iT y;refine⟨.pointer _,⟨l,A,Q⟩,λ w=>?_⟩;simp[aiA,adF,j2 D,adI,sizeOf,yn,F,BO,KJ];intro h2;exfalso;omega
 .rename_i e u off len lim k i D;cases hi;split at h<;>try cases h
  rename_i j y F;have y:=iT y;cases lim;.obtain⟨l,A,rfl⟩:=J;refine⟨.pointer _,⟨l,A,Q⟩,λ w=>?_⟩;simp[aiA,adF,j2 D,sizeOf,yn,F,BO,KJ];intro h2;exfalso;omega
  rename_i c;obtain⟨l,A,rfl⟩:=J;refine⟨.pointer _,⟨l,A,Q⟩,λ w=>?_⟩;simp[aiA,adF,j2 D,sizeOf,yn,F,BO,KJ];intro h2;exfalso;omega
 cases h
def aAe(Z:bW ρ a p)(hi:bW ρ ix q)(h:uw P t a ix=O v):∃r,bW ρ v r/\∀w,(ald t p q).run P w=.ok r w:=by
 unfold uw at h;split at h
 .rename_i s k i J;cases Z;cases hi;split at h
  .rename_i b D;cases h;refine⟨.int .u8 b.toNat,Q,λ w=>?_⟩;have M:(⟨⟨s⟩⟩:az5)[i]? =O b:=by have y:i<s.length:=(pC.1 D).1;rw[getElem?_pos _ i y,<-D,eg y];rfl
   simp[ald,adF,j2 J,M]
  cases h
 .rename_i n e cs k i J;obtain⟨N,rfl,F⟩:=Z;cases hi;split at h<;>try cases h
  rename_i d j Y S;split at h
  .rename_i D u;cases h;have y:=iT D;refine⟨.agg _,⟨_,Q,amT _ (agO _ F)⟩,λ w=>?_⟩;have A:(ap0 e).run P w=.ok V w:=by unfold xm at u;simp only[ap0,nr,j2 Y,sr];split at u<;>first|rfl|cases u
   have K:(⟨N⟩:kA).extract (i*j.size) (i*j.size+j.size)=⟨(N.drop (i*j.size)).take j.size⟩:=by simp[List.extract_eq_drop_take]
   simp[ald,adF,j2 J,part,A,sizeOf,yn,S,K];omega
  .rename_i D u;have y:=iT D;obtain⟨x,hx,hr⟩:=vL F h;refine⟨x,hr,λ w=>?_⟩;have A:(ap0 e).run P w=.ok W w:=by unfold xm at u;simp only[ap0,nr,j2 Y,sr];split at u<;>first|(cases u;done)|(cases d<;>first|rfl|simp_all)
   simp[ald,adF,j2 J,part,A,sizeOf,yn,S,hx];omega
  cases h
 cases h
def aIB{ty:bj}{ts:abB bj}(A:ts[0]? =O t)(F:bW ρ a p)(h:dh P t a=O v):∃r,bW ρ v r/\∀w,(ac0 ts ty #[p]).run P w=.ok r w:=by
 unfold dh at h;split at h;.rename_i s D;cases h;cases F;simp[ac0,A,j2 D,ap3];rfl
 .rename_i e D;cases h;cases F;exact⟨.int .i64 0,Q,λ w=>by simp[ac0,A,j2 D,ap3]⟩
 .rename_i e D;cases h;obtain⟨x,c,rfl⟩:=F;exact⟨.int .i64 0,Q,λ w=>by simp[ac0,A,j2 D,ap3]⟩
 .rename_i e u off m lim D;cases h;cases lim;.obtain⟨l,J,rfl⟩:=F;exact⟨.int .i64 m,Q,λ w=>by simp[ac0,A,j2 D,ap3]⟩
  rename_i c;obtain⟨l,J,rfl⟩:=F;exact⟨.int .i64 m,Q,λ w=>by simp[ac0,A,j2 D,ap3]⟩
 .rename_i y m e D;cases h;exact⟨.int .i64 m,Q,λ w=>by simp[ac0,A,j2 D,ap3]⟩
 cases h
end
section
variable{v:au}
variable{P:aA}{Bqq ng n:R}{ρ:dO}
theorem aAk{c a b:cR}(h:BE c a b=O v):(∃y,c=O (.bool V)/\a=O v/\b=O y)\/(∃y,c=O (.bool W)/\a=O y/\b=O v):=by unfold BE at h;grind
theorem ax7{fs:abB auN}{i:R}{p:sj}(h:Dc P fs i=O p):∃f j,fs[i]? =O f/\P.info? f.type=O j/\p=(f.offset,j.size):=by grind[Dc]
def JJ(P:aA)(fs:B auN):yg:=fs.map λ f=>(f.offset,P.cellsOf f.type)
def akX(w:cG):∀(fs:B auN),fs.all (λ f=>(P.info? f.type).isSome)=V->
 (fs.mapM λ f=>(do pure (f.offset,<-sizeOf f.type):Sem (R×R))).run P w=.ok (JJ P fs) w
 |[],_=>by simp[JJ]
 |f::fs,h=>by rw[ny,bq]at h;have h1:=akX w fs h.2;obtain⟨j,u⟩:=tN.1 h.1;simp[sizeOf,yn,u]at h1⊢;rw[h1];simp[JJ,Program.cellsOf,u]
theorem azV{t:bj}{l:wi}{l':B (R×ye)}(h1:l.map (·.1)=l'.map (·.1))(h2:dS ρ (l.map (·.2)) (l'.map (·.2)))(h:mc P t (O l)=O v):
 ∃r,bW ρ v r/\∀w,(aqj t l'.toArray).run P w=.ok r w:=by
 unfold mc at h;split at h
 .rename_i z fs l0 K M A;cases A;split at h<;>try cases h
  rename_i F;split at h<;>cases h;rename_i cs Y;obtain⟨i,zv,hi,u,y⟩:=IE K;have J:∀w,(fs.mapM λ f=>(do pure (f.offset,<-sizeOf f.type):Sem _)).run P w=.ok (JJ P fs.toList).toArray w:=by intro w;have h3:=akX w _ F;obtain⟨fl⟩:=fs;grind[Sem.run_map,sr]
  have N:∀(i) p,Dc P fs i=O p->(JJ P fs.toList).toArray[i]? =O p:=by grind[ax7,JJ,Program.cellsOf]
  obtain⟨C',Z,D,_⟩:=W7 (λ i p hp=>by simpa using N i p hp) h1 h2 (DK (y ρ)) Y;refine⟨.agg C',⟨C'.toList,Q,D⟩,λ w=>?_⟩;simp only[aqj,adE,yn,nr,acC,sr,hi,u,BS,j2 M,J];simp[Z]
 .rename_i cs m e K M A;cases A;split at h<;>cases h;rename_i ie S;obtain⟨i,zv,hi,u,y⟩:=IE K;have hl:l'=[]:=by cases l' with|nil=>rfl|cons _ _=>simp at h1
  subst hl;obtain⟨C,rfl,hC⟩:=y ρ;refine⟨.agg _,⟨C,Q,hC⟩,λ w=>?_⟩;simp[aqj,adE,yn,nr,acC,sr,hi,u,BS,j2 M,sizeOf,S];simp[arR,Value.cells]
 .cases h
theorem LU{p:Prop}(h:p:=by apply Oq;simp):p:=h
theorem ahz{T:aM}(F:hY ρ n T a.tmps)(D:Dm ng ρ)(h:nU P ng T o.op=O v):
 ∃x,bW ρ v x/\∀w,(MO a.eval o).run P w=.ok (.value x) w:=by
 obtain⟨ad,op,S,ac,aa,guard⟩:=o;cases op with
 |move x=>exact⟨_,jq F D h,λ w=>by simp[MO]⟩
 |assign x=>exact⟨_,jq F D h,λ w=>by simp[MO]⟩
 |pick c x y=>
  rcases aAk h with⟨y',h1,h2,M⟩|⟨y',h1,h2,M⟩
  .have e1:=jq F D h1;have e1:a.eval c=.bool true:=e1;exact⟨_,jq F D h2,λ w=>by simp[MO,e1,asBool]⟩
  have e1:a.eval c=.bool false:=jq F D h1;exact⟨_,jq F D M,λ w=>by simp[MO,e1,asBool]⟩
 |build t Y=>
  change mc P t (qA ng T Y.toList)=O v at h;cases hp:qA ng T Y.toList;.rw[hp]at h;unfold mc at h;grind
  rename_i l;rw[hp]at h;obtain⟨h1,h2⟩:=Yh F D hp;obtain⟨r,J,A⟩:=azV (l':=Y.toList.map λ p=>(p.1,a.eval p.2)) (by rw[h1];simp) (by simpa[Function.comp_def]using h2) h;have e:(Y.map λ p=>(p.1,a.eval p.2))=(Y.toList.map λ p=>(p.1,a.eval p.2)).toArray:=LU;simp only[MO,nr];simp_all
 |nilCheck x=>
  change Bt (cy ng T x)=O v at h;cases hx:cy ng T x;.rw[hx]at h;cases h
  rename_i u;rw[hx]at h;have e1:=jq F D hx;obtain⟨rfl,A⟩:=apY (P:=P) e1 h;grind
 |binOp op t x y yt=>
  change DA P op t (cy ng T x) (cy ng T y)=O v at h;unfold DA at h;split at h;.rename_i p q hx N;obtain⟨r,J,A⟩:=aIg (x:=x) (y:=y) (jq F D hx) (jq F D N) h;refine⟨r,J,λ w=>?_⟩;have:=A w;simp only[MO,nr]at this⊢;rw[this];rfl
  cases h
 |unOp op t x=>
  change D4 op (cy ng T x)=O v at h;unfold D4 at h;split at h
  .rename_i p hx;have e1:=jq F D hx;unfold JX at h;split at h;.have e1:a.eval x=.int _ _:=e1;obtain⟨r,J,A⟩:=Q7 h;exact⟨r,J ρ,λ w=>by simp only[MO,nr,e1,A P w];rfl⟩
   .have e1:a.eval x=.bool _:=e1;obtain⟨r,J,A⟩:=Q7 h;exact⟨r,J ρ,λ w=>by simp only[MO,nr,e1,A P w];rfl⟩
   cases h
  cases h
 |convert s d x=>
  change sH P s d (cy ng T x)=O v at h;unfold sH at h;split at h;.rename_i ds k kk m hs hd hx;cases h;have e1:a.eval x=.int kk m:=jq F D hx;refine⟨.int k (k.wrap m),Q,λ w=>?_⟩;simp[MO,Go.convert,j2 hs,j2 hd,e1,Conv.intToInt]
  cases h
 |makeFunc fn first cap=>
  cases fn with
  |func f=>
   change Gp f (ni ng T first.toList) (ni ng T cap.toList)=O v at h;unfold Gp at h;split at h
   .rename_i p q h1 h2;cases h;refine⟨.func (.func f) _ ⟨cap.toList.map a.eval⟩,⟨_,_,Q,Hh F D h1,Hh F D h2⟩,λ w=>?_⟩;simp only[MO,Instr.makeFunc,nr,BS,sr];have e1:aAx a.eval first=⟨azq a.eval first.toList⟩:=LU
    have e2:aAx a.eval cap=⟨azq a.eval cap.toList⟩:=LU;rw[e1,e2]
   cases h
  |_=>cases h
 |fieldAddr s x f=>
  change Dk P s f (cy ng T x)=O v at h;unfold Dk at h;split at h;.rename_i p hx;obtain⟨r,J,A⟩:=auj (jq F D hx) h;exact⟨r,J,λ w=>by simp only[MO,nr,A w];rfl⟩
  cases h
 |indexAddr t x ix=>
  change DI P t (cy ng T x) (cy ng T ix)=O v at h;unfold DI at h;split at h;.rename_i p q hx hi;obtain⟨r,J,A⟩:=are (jq F D hx) (jq F D hi) h;exact⟨r,J,λ w=>by simp only[MO,nr,A w];rfl⟩
  cases h
 |index t x ix=>
  change D9 P t (cy ng T x) (cy ng T ix)=O v at h;unfold D9 at h;split at h;.rename_i p q hx hi;obtain⟨r,J,A⟩:=aAe (jq F D hx) (jq F D hi) h;exact⟨r,J,λ w=>by simp only[MO,nr,A w];rfl⟩
  cases h
 |extract x i=>
  change CU i (cy ng T x)=O v at h;unfold CU at h;split at h;.rename_i vs hx;obtain⟨xs,he,Z⟩:=jq F D hx;obtain⟨y,N,J⟩:=vL Z h;refine⟨y,J,λ w=>?_⟩;simp[MO,he,Instr.extract,N]
  cases h
 |call c=>
  obtain⟨K,args,ts⟩:=c;change Cn P ng T ⟨K,args,ts⟩=O v at h;unfold Cn at h;split at h
  .rename_i t ab x h1 h2 M;subst h1;split at h
   .rename_i p hx;obtain⟨r,J,A⟩:=aIB (ty:=S) (ts:=ts) (by rw[<-adR,h2];rfl) (jq F D hx) h;refine⟨r,J,λ w=>?_⟩;have ha:args= #[x]:=by apply Oq;simpa using M
    subst ha;simp[MO,resolve,ap1,agm,A w]
   cases h
  .rename_i x y h1 M;subst h1;split at h
   .rename_i k p k' q hx N;cases h;have ha:args= #[x,y]:=by apply Oq;simpa using M
    subst ha;have e1:=jq F D hx;have e2:=jq F D N;refine⟨.int k _,Q,λ w=>?_⟩;have e1:a.eval x=.int k p:=e1;have e2:a.eval y=.int k' q:=e2;simp[MO,resolve,ap1,agm,Builtin.min_,Builtin.min2,e1,e2]
   cases h
  .rename_i x y h1 M;subst h1;split at h
   .rename_i k p k' q hx N;cases h;have ha:args= #[x,y]:=by apply Oq;simpa using M
    subst ha;have e1:=jq F D hx;have e2:=jq F D N;refine⟨.int k _,Q,λ w=>?_⟩;have e1:a.eval x=.int k p:=e1;have e2:a.eval y=.int k' q:=e2;simp[MO,resolve,ap1,agm,Builtin.max_,Builtin.max2,e1,e2]
   cases h
  cases h
 |_=>cases h
end
section
variable{T:aM}{aI:vd}{g g' obj:fE}{t:bj}{v:au}
variable{P:aA}{Bqq ng n:R}{ρ:dO}
theorem acY{w:cG}(s:gP Bqq ng ρ obj aI w.heap){a:au}(ha:bW ρ a p)(h:cr P obj t a=O v):
 ∃r,bW ρ v r/\(aft t p).run P w=.ok r w:=by
 unfold cr at h;split at h<;>try cases h
 rename_i x off;obtain⟨l,hl,rfl⟩:=ha;split at h<;>try cases h
 rename_i d i hd hi;split at h
 .rename_i u;split at h<;>try cases h
  rename_i cs K;obtain⟨l',C,e,fz,Z,F,hb,S,A,N,D⟩:=Il s K;rw[hl]at F;cases F;refine⟨.agg _,⟨Z,Q,A⟩,?_⟩;have Y:=run_loadCells_list (P:=P) w _ Z (λ j y hy=>by rw[aaC hb];exact D j y hy);rw[N]at Y;have J:(ap0 t).run P w=.ok V w:=by unfold xm at u;rw[ap0,nr,j2 hd];split at u<;>first|rfl|cases u
  simp[aft,adI,loadVar,J,sizeOf,yn,hi,Y]
 .rename_i u;split at h<;>try cases h
  rename_i c aa K;obtain⟨l',C,e,fz,Z,F,hb,S,A,N,D⟩:=Il s K;obtain⟨y,ys,rfl,hy,_⟩:=ep.1 A;refine⟨y,hy,?_⟩;have M:w.cell? ⟨l.cU,l.off+off,X⟩=O y:=by have:=D 0 y Q;grind[cell_of_row]
  have J:(ap0 t).run P w=.ok W w:=by unfold xm at u;rw[ap0,nr,j2 hd];split at u<;>first|(cases u;done)|(cases d<;>first|rfl|simp_all)
  simp[aft,adI,loadVar,J,M]
theorem SN{x:cR}{d l:R}(h:oM x d=O l):(x=X/\l=d)\/∃k,x=O (.int k (gu l)):=by
 unfold oM at h;split at h;.grind
 .split at h<;>cases h;exact .inr ⟨_,Q⟩
 cases h
theorem agV(A:hY ρ n T a.tmps)(u:Dm ng ρ){x:AR}{y:cR}(h:vg ng T x=O y):(x=X/\y=X)\/∃o v,x=O o/\y=O v/\bW ρ v (a.eval o):=by unfold vg at h;grind[jq]
theorem Vl(w:cG)(k:jT)(l y:R)(u:BoundsCode)(h:l<=y):(Instr.sliceBound (.int k (gu l)) y u).run P w=.ok l w:=by grind[run_sliceBound]
theorem Lc{isSl:mi}(w:cG)(len cap l h:R)(lo hi:gw ye)(u:(lo=X/\l=0)\/∃k,lo=O (.int k (gu l)))(y:(hi=X/\h=len)\/∃k,hi=O (.int k (gu h)))
 (h1:l<=h) (h2:h<=cap):(asA isSl len cap lo hi X).run P w=.ok (l,h,cap) w:=by
 unfold asA;rcases u with⟨rfl,rfl⟩|⟨k,rfl⟩
 .grind[nr,BS,sr,Vl]
 .rcases y with⟨rfl,rfl⟩|⟨A,rfl⟩
  .grind[nr,BS,sr,Vl]
  grind[nr,BS,sr,Vl]
def aE5(s:jo)(l h:R):(⟨⟨s⟩⟩:az5).extract l h=⟨⟨(s.drop l).take (h-l)⟩⟩:=by apply ByteArray.ext;simp
theorem ayS{w:cG}(s:gP Bqq ng ρ obj aI w.heap){a:au}{lo hi:cR}{F J:gw ye}(ha:bW ρ a p)
 (am:(lo=X/\F=X)\/∃x y,lo=O x/\F=O y/\bW ρ x y) (an:(hi=X/\J=X)\/∃x y,hi=O x/\J=O y/\bW ρ x y) (h:kU P obj t a lo hi=O v):
 ∃r,bW ρ v r/\(acI t p F J X).run P w=.ok r w:=by
 have ab:∀l,oM lo 0=O l->(F=X/\l=0)\/∃k,F=O (.int k (gu l)):=by
  intro l Y;rcases am with⟨rfl,rfl⟩|⟨x,y,rfl,rfl,af⟩
  .grind[SN]
  rcases SN Y with⟨hk,_⟩|⟨k,hk⟩
  .cases hk
  cases hk;cases af;exact .inr ⟨k,Q⟩
 have ac:∀d m,oM hi d=O m->(J=X/\m=d)\/∃k,J=O (.int k (gu m)):=by
  intro d m hm;rcases an with⟨rfl,rfl⟩|⟨x,y,rfl,rfl,af⟩
  .grind[SN]
  rcases SN hm with⟨hk,_⟩|⟨k,hk⟩
  .cases hk
  cases hk;cases af;exact .inr ⟨k,Q⟩
 unfold kU at h;split at h
 .rename_i str ht;split at h
  .rename_i l m Y hm;split at h;.rename_i h1 h2;have h1:=iT h1;have h2:=iT h2;cases h;cases ha;have ag:(⟨⟨str⟩⟩:az5).size=str.length:=rfl;refine⟨_,Q,?_⟩;have:=Lc (P:=P) (isSl:=W) w str.length str.length l m F J (ab l Y) (ac str.length m hm) h1 h2;simp only[acI,nr,j2 ht,sr,ag2,ag,this,BS,Option.isSome_none,Bool.false_eq_true,KK];rw[aE5]
   cases h
  cases h
 .rename_i e ht;split at h
  .rename_i h1 h2;split at h;.rename_i i M;cases h;cases ha;refine⟨.slice X 0 0,Q,?_⟩;have:=Lc (P:=P) (isSl:=V) w 0 0 0 0 F J (ab 0 h1) (ac 0 0 h2) (aZ _) (aZ _);simp only[acI,nr,j2 ht,sr,ag2,this,sizeOf,yn,acC,M,BS];rfl
   cases h
  cases h
 .rename_i e ht;split at h
  .rename_i h1 h2;split at h
   .rename_i i M;cases h;obtain⟨ad,c,rfl⟩:=ha;have:=Lc (P:=P) (isSl:=V) w 0 c 0 0 F J (ab 0 h1) (ac 0 0 h2) (aZ _) (kG _);refine⟨.slice (if c=0 then O ad else O (ad.add (0*i.size))) (0- 0) (c- 0),?_,?_⟩;.split<;>exact⟨_,_,Q⟩
    simp only[acI,nr,j2 ht,sr,ag2,this,sizeOf,yn,acC,M,BS,Ot]
   cases h
  cases h
 .rename_i e x off lim ht;split at h
  .rename_i h1 h2;split at h
   .rename_i i M;cases h
    obtain⟨cap,u,A,hp,hq⟩:∃cap u,ρ x=O u/\p=.slice (O ⟨u.cU,u.off+off,X⟩) 0 cap/\∀q,q=.slice (O ⟨u.cU,u.off+off,X⟩) 0 cap->bW ρ (.slice x off 0 lim) q:=by
     cases lim;.obtain⟨l,Y,rfl⟩:=ha;exact⟨_,l,Y,Q,λ q e=>⟨l,Y,e⟩⟩
     rename_i c;obtain⟨l,Y,rfl⟩:=ha;exact⟨_,l,Y,Q,λ q e=>⟨l,Y,e⟩⟩
    subst hp;have:=Lc (P:=P) (isSl:=V) w 0 cap 0 0 F J (ab 0 h1) (ac 0 0 h2) (aZ _) (kG _);refine⟨_,hq _ Q,?_⟩;simp only[acI,nr,j2 ht,sr,ag2,this,sizeOf,yn,acC,M,BS,Ot,BO,adS,sK,ite_self,Ou,UE]
   cases h
  cases h
 .rename_i e x off len lim av ht;split at h<;>try cases h
  rename_i i M;split at h<;>try cases h
  rename_i ex c l m D Y hm;split at h<;>try cases h
  rename_i h1 h2;have h1:=iT h1;have h2:=iT h2;obtain⟨b,n',cap,rfl,ay,ax⟩:=Uv s ha D;obtain⟨_,u,A,ap⟩:=agk ha len
  have ak:n'=len:=by
   cases lim;.obtain⟨_,_,he⟩:=ha;cases he;rfl
   obtain⟨_,_,he⟩:=ha;cases he;rfl
  subst ak;subst ap
  have K:(acI t (.slice (O ⟨u.cU,u.off+off,X⟩) n' cap) F J X).run P w=
   .ok (.slice (if cap=l then O ⟨u.cU,u.off+off,X⟩else O ⟨u.cU,u.off+off+l*i.size,X⟩) (m-l) (cap-l)) w:=by
   have:=Lc (P:=P) (isSl:=V) w n' cap l m F J (ab l Y) (ac n' m hm) h1 aa;simp only[acI,nr,j2 ht,sr,ag2,this,sizeOf,yn,acC,M,BS,Ot,BO]
  split at h
  ·
   rename_i c';cases h;obtain⟨l2,S,he⟩:=ha;rw[A]at S;cases S;injection he with _ _ ao;subst ao;refine⟨_,?_,K⟩;cases hb:gr cap l;.have hb:=beq_false hb;rw[aR hb];exact⟨u,A,by rw[KJ]⟩
   have hb:=beq_true hb;rw[aY hb];exact⟨u,A,Q⟩
  obtain⟨l2,S,he⟩:=ha;injection he with _ _ Z;rw[A]at S;cases S
  have ag:u.sz=i.size/\∃r C fz,obj x=O r/\Ch Bqq ρ r u C fz/\off<=r.cells.length/\c=(r.cells.length-off)/i.size:=by
   simp only[jy]at D;split at D
   .rename_i r hr;split at D;.rename_i hz ho;simp at D;obtain⟨l3,C3,e3,aj,ai,az,ae⟩:=s.row x r hr;rw[A]at ai;cases ai;exact⟨by rw[ae.sz,beq_true hz],r,C3,aj,hr,ae,iT ho,D.2.symm⟩
    cases D
   cases D
  obtain⟨hz,r,C3,aj,hr,ae,aq,ar⟩:=ag;have ah:(u.cap-(off+l*i.size))/u.sz=cap-l:=by rw[Z,hz,<-Nat.sub_sub,Nat.mul_comm,Nat.sub_mul_div]
  split at h;.rename_i N;have N:=iT N;cases h;refine⟨_,?_,K⟩;rw[aR aa];exact⟨u,A,by rw[ah,KJ]⟩
  .rename_i N h0;have h0:=beq_true h0;subst h0;cases h;refine⟨_,?_,K⟩;have:(if cap=0 then O (⟨u.cU,u.off+off,X⟩:Addr)else O ⟨u.cU,u.off+off+0*i.size,X⟩)=O ⟨u.cU,u.off+off,X⟩:=aw;rw[this];exact⟨u,A,by simp[Z]⟩
  rename_i N h0;have N:=aaY N;have h0:=beq_false h0;have al:m=l:=aa;subst al;split at h;.cases h;refine⟨_,?_,K⟩;exact⟨u,A,bP⟩
  cases h;refine⟨_,?_,K⟩;rw[UE];split;.exact⟨_,_,Q⟩
  exact⟨_,_,Q⟩
 .cases h
def atL{w:cG}(s:gP Bqq ng ρ obj aI w.heap){ty:bj}{y:abB bj}(u:y[0]? =O t){a:au}(F:bW ρ a p)(h:Dy P obj t a=O v):
 ∃r,bW ρ v r/\(aw2 y ty #[p]).run P w=.ok r w:=by
 unfold Dy at h;split at h
 .rename_i e A;split at h;.split at h<;>cases h;rename_i c D;obtain⟨b,m,cap,rfl,h1,h2⟩:=Uv s F D;have:=h2 Q;subst this;exact⟨.int .i64 cap,Q,by simp[aw2,u,j2 A,ap3]⟩
  cases h
 .cases h
theorem agX{w:cG}(s:gP Bqq ng ρ obj aI w.heap)(K:hY ρ n T a.tmps)(h:dY P ng T obj o.op=O v):
 ∃x,bW ρ v x/\(MO a.eval o).run P w=.ok (.value x) w:=by
 have J:Dm ng ρ:=s.lW;obtain⟨Y,op,A⟩:=o;cases op with
 |load t x=>
  change wk P obj t _=O v at h;unfold wk at h;split at h;.rename_i p hx;obtain⟨r,D,u⟩:=acY s (jq K J hx) h;exact⟨r,D,by rw[MO,nr,u];rfl⟩
  cases h
 |slice t x lo hi mx=>
  change xn P obj t _ _ _ mx=O v at h;unfold xn at h;split at h
  .rename_i p l m hx Z hm;have h1:(l=X/\lo.map a.eval=X)\/∃x y,l=O x/\lo.map a.eval=O y/\bW ρ x y:=by grind[agV]
   have h2:(m=X/\hi.map a.eval=X)\/∃x y,m=O x/\hi.map a.eval=O y/\bW ρ x y:=by grind[agV]
   obtain⟨r,D,u⟩:=ayS s (jq K J hx) h1 h2 h;exact⟨r,D,by rw[MO,nr,Option.map_none,u];rfl⟩
  cases h
 |call c=>
  obtain⟨F,args⟩:=c;change BN P ng T obj _=O v at h;unfold BN at h;split at h<;>try cases h
  rename_i t M x h1 h2 S;subst h1;split at h
  .rename_i p hx;obtain⟨r,D,u⟩:=atL (ty:=A) s (by rw[<-adR,h2];rfl) (jq K J hx) h;refine⟨r,D,?_⟩;have N:args= #[x]:=by apply Oq;simpa using S
   subst N;simp[MO,resolve,ap1,agm,u]
  cases h
 |_=>cases h
theorem ajM(u:∀v r,g v=O r->g' v=O r){v m:R}{cs:aF}(h:aQ g v off m=O cs):aQ g' v off m=O cs:=by grind[aQ]
theorem aih(u:∀v r,g v=O r->g' v=O r){x:au}{p:mi×R}(h:jy g sz x=O p):jy g' sz x=O p:=by
 cases x with
 |slice v off len lim=>
  cases lim;.grind[jy]
  rename_i c;exact h
 |_=>exact h
theorem auZ(u:∀v r,g v=O r->g' v=O r){x:au}(h:cr P g t x=O v):cr P g' t x=O v:=by
 unfold cr at h⊢;split at h
 .split at h
  .split at h;.grind[ajM]
   grind[ajM]
  cases h
 cases h
end
section
variable{T:aM}{g g':fE}{t:bj}{v:au}
variable{P:aA}{Bqq ng n:R}{ρ:dO}
theorem aGH(u:∀v r,g v=O r->g' v=O r){x:au}{lo hi:cR}(h:kU P g t x lo hi=O v):kU P g' t x lo hi=O v:=by
 unfold kU at h⊢;split at h;.exact h
 .exact h
 .exact h
 .exact h
 .split at h;.cases h
  grind[aih]
 cases h
theorem aCm(u:∀v r,g v=O r->g' v=O r){x:au}(h:Dy P g t x=O v):Dy P g' t x=O v:=by
 unfold Dy at h⊢;split at h;.grind[aih]
 cases h
def aEB(u:∀v r,g v=O r->g' v=O r):∀(A:cR) (L H:gw cR) (M:AR),xn P g t A L H M=O v->xn P g' t A L H M=O v
 |some _,O _,O _,X,h=>aGH u h
 |none,_,_,_,h=>by cases h
 |some _,X,_,_,h=>by cases h
 |some _,O _,X,_,h=>by cases h
 |some _,O _,O _,O _,h=>bk
theorem BF(u:∀v r,g v=O r->g' v=O r){o:Op}(h:dY P ng T g o=O v):dY P ng T g' o=O v:=by
 cases o with
 |load t x=>
  change wk P g t _=O v at h;change wk P g' t _=O v;cases hx:cy ng T x;.rw[hx]at h;cases h
  rename_i p;rw[hx]at h;exact auZ u h
 |slice t x lo hi mx=>exact aEB u _ _ _ _ h
 |call c=>
  change BN P ng T g _=O v at h;change BN P ng T g' _=O v;grind[BN,aCm]
 |_=>cases h
theorem S9(z:aF):∀k,(jS z k).length=k*z.length
 |0=>by simp[jS]
 |k+1=>by simp[jS,S9 z k,qO,UF]
theorem ai4(z:aF):∀k i,i<k*z.length->(jS z k)[i]? =z[i%z.length]?
 |0,i,h=>by simp at h
 |k+1,i,h=>by
  rw[jS];rw[qO]at h;by_cases hi:i<z.length;.grind[Nat.mod_eq_of_lt]
  rw[uH aa,ai4 z k _ aa,<-Nat.mod_eq_sub_mod aa]
theorem abv{z:aF}{u:kA}(h:dS ρ z u.toList)(k:R):dS ρ (jS z k) ((ahf (k*u.size)).map λ i=>u[i%u.size]!).toList:=by have y:=pY h;grind[LK,S9,ai4,vL]
def BU(b:R):bA->R->ye
 |X,_=>.pointer (O ⟨b,0,X⟩)
 |O k,c=>.slice (O ⟨b,0,X⟩) k c
theorem aiv(hT:hY ρ n T a.tmps)(hg:Dm ng ρ){cs:aF}{m:bA}(h:wM P ng T o.op=O (cs,sz,m)):
 ∃(C:kA) (e:bj),dS ρ cs C.toList/\∀w,(MO a.eval o).run P w=.ok (.value (BU w.heap.size m (cs.length/sz))) (w.alloc (.cells C e)):=by
 obtain⟨al,op,ah,ai,ag,guard⟩:=o;cases op with
 |alloc t=>
  change vW (fW P t)=_ at h;unfold vW at h;split at h;.rename_i z N;cases h;obtain⟨i,M,hi,y,Z⟩:=IE N;refine⟨M.cells,t,DK (Z ρ),λ w=>?_⟩;simp[MO,Instr.alloc,adE,yn,hi,y,newVar,newRow,BU]
  cases h
 |box t x=>
  change vW (cy ng T x)=_ at h;unfold vW at h;split at h;.rename_i z N;cases h;refine⟨(a.eval x).cells,t,DK (jq hT hg N),λ w=>?_⟩;simp[MO,Instr.box,newVar,newRow,BU]
  cases h
 |buildSlice t len ps=>
  change oW P t len (qA ng T ps.toList)=_ at h;unfold oW at h;split at h
  .rename_i e l ht hl;split at h
   .rename_i i z hi N;split at h
    .rename_i h1 h2 h3;have h1:=beq_true h1;have h2:=beq_false h2;have h3:=iT h3;split at h<;>try cases h
     rename_i am af;obtain⟨i',M,F,y,Z⟩:=IE N;rw[hi]at F;cases F;have D:=DK (Z ρ);have A:=pY D;simp only[apC]at A;have J:M.cells.size=i.size:=by rw[A];exact h1
     obtain⟨p1,p2⟩:=Yh hT hg hl;obtain⟨C,hC,Y,ak⟩:=W7 (λ j p hp=>hp) (l':=ps.toList.map λ p=>(p.1,a.eval p.2)) (C:=(ahf (len*M.cells.size)).map _) (by rw[p1];simp) (by simpa[Function.comp_def]using p2) (abv D len) af;refine⟨C,e,Y,λ w=>?_⟩;have aj:cs.length=len*i.size:=by grind[pY,Array.length_toList]
     have u:cs.length/i.size=len:=by grind[atU]
     have e2:(ps.map λ (x:R×eN)=>match x with|(i,x)=>(i,a.eval x)).toList=ps.toList.map λ p=>(p.1,a.eval p.2):=aw
     by_cases ac:len*i.size=0
     .have S:len=0:=by grind[axp]
      subst S;have K:ahf 0= #[]:=rfl;simp[MO,auM,j2 ht,sizeOf,yn,hi,newRow,BU,u,by simpa[K]using hC,K]
     rw[J]at hC;have ab:¬(16777216<len*i.size):=aa;simp only[MO,auM,nr,j2 ht,sr,sizeOf,yn,acC,hi,BS,e2,Sem.run_ite,ac,KK,adE,y];simp[ab,J,hC,newRow,BU,u]
    cases h
   cases h
  cases h
 |makeSlice t l c=>
  change wu P t (cy ng T l) (cy ng T c)=_ at h;unfold wu at h;split at h
  .rename_i e k m' ht hl hc;split at h
   .rename_i i z hi N;split at h<;>try cases h
    rename_i h1 h2 h3 h4 h5;have h1:=beq_true h1;have h2:=beq_false h2;have h3:=iT h3;have h5:m'<=1099511627776:=iT h5;obtain⟨i',M,F,y,Z⟩:=IE N;rw[hi]at F;cases F;have D:=DK (Z ρ);have A:=pY D;simp only[apC]at A;have J:M.cells.size=i.size:=by rw[A];exact h1
    have el:a.eval l=.int .i64 (gu k):=jq hT hg hl;have ec:a.eval c=.int .i64 (gu m'):=jq hT hg hc;have u:(jS z.cells m').length/i.size=m':=by grind[S9,atU]
    refine⟨(ahf (m'*M.cells.size)).map _,e,abv D m',λ w=>?_⟩;have w1:=wrap_small k aa;have w2:=wrap_small m' h5;have w3:¬(281474976710656<(i.bytes:U)*(m':U)):=by rw[Int.mul_comm];exact ac7 (iT h4)
    have w4:¬((m':U)<0):=aa;have w5:¬((k:U)<0):=aa;have w6:¬((m':U)<(k:U)):=aa;simp only[MO,Instr.makeSlice,nr,j2 ht,sr,el,ec,ayN,adF,BS,yn,acC,hi,Cw,w1,w2];by_cases ad:m'*i.size=0
    .have hm:m'=0:=by grind[axp]
     subst hm;have K:ahf 0= #[]:=rfl;have ae:k=0:=aa;subst ae;simp[sizeOf,yn,hi,newRow,BU,K,jS]
    simp[w3,w4,w5,w6,sizeOf,yn,hi,ad,adE,y,newRow,BU,u,J]
   cases h
  cases h
 |_=>cases h
end
section
variable{H':aj}{T:aM}{aae:bg}{l:aF}{ls:jZ}{ts:xC}{v:au}
variable{P:aA}{ng n:R}{ρ:dO}
def iM(H H':aj):Prop:=H.ae<=H'.ae/\(WF H->WF H')
theorem iM.refl(H:aj):iM H H:=⟨aZ _,id⟩
theorem iM.trans{a b c:aj}(h:iM a b)(k:iM b c):iM a c:=⟨fI h.1 k.1,λ w=>k.2 (h.2 w)⟩
theorem aal(H:aj)(y:aF)(ex:mi)(sz:R):iM H (alloc H y ex sz):=by
 refine⟨mS _,λ w v r u=>?_⟩;have u:(H.ah.set _ _).get v=O r:=u;rw[Tr.jg]at u;show v<H.ae+1/\r.aI<H.ae+1;split at u;.cases u;simp;omega
 have:=w v r u;omega
theorem Nz{H:aj}{v:R}{new:aF}(h:write H v off new=O H'):iM H H':=by
 unfold write at h;split at h;.cases h
 rename_i r y;split at h<;>cases h;rename_i mem h1 h2 D A;refine⟨aZ _,λ w u ru hu=>?_⟩;rw[Tr.jg]at hu;split at hu;.rename_i e;cases hu;subst e;exact w v r y
 exact w u ru (AL mem _ u ru hu).1
theorem apX{H:aj}{bytes m:R}{s:au}{new:aF}(h:gM H sz bytes s m new=O (v,H')):iM H H':=by
 unfold gM at h;split at h<;>try cases h
 split at h;.grind[iM.refl,Nz]
 split at h<;>try cases h
 split at h;.cases h;exact aal _ _ _ _
 split at h<;>try cases h
 split at h<;>try cases h
 rename_i r y;split at h<;>cases h;rename_i mem _ _ _;refine⟨mS _,λ w u ru hu=>?_⟩;rw[Tr.jg]at hu;show u<H.ae+1/\ru.aI<H.ae+1;split at hu;.cases hu;have:=(w _ r y).2;simp;omega
 have:=w u ru (yE mem _ u ru hu).1;omega
def aF2{H:aj}(h:iC P H ts l=O (v,H')):iM H H':=by
 unfold iC at h
 repeat' (split at h)
 all_goals first|(cases h;done)|exact apX h|(cases h;exact iM.refl _)
def aDA{H:aj}(h:wR P H ts l=O (v,H')):iM H H':=by
 unfold wR at h;split at h<;>try cases h
 split at h
 .split at h
  .split at h;.cases h;exact iM.refl _
   .split at h<;>cases h;rename_i u;exact Nz u
   cases h
  cases h
 cases h
def ib(aae:bg):Prop:=∀f args H v H',aae f args H=O (v,H')->iM H H'
theorem YF{f:ck}{args:aF}{H:aj}{r:xe}(h:eL P aae f args H=O r):
 ∃fn c,P.funcs[f]? =O fn/\fn.body=O c/\(fn.name== "runtime.NumGoroutine")=W/\aae f args H=O r:=by
 grind[eL]
theorem avN(A:ib aae){H:aj}{o:Op}(h:uV P ng aae T H o=O (v,H')):iM H H':=by
 cases o with
 |store t x y=>
  change xG P H t _ _=_ at h;unfold xG at h;split at h
  .split at h;.rename_i K u;unfold dD at u;grind[Nz]
   cases h
  cases h
 |call c=>
  change yT P ng aae T H c=_ at h;unfold yT at h;split at h
  .unfold ud at h;split at h;.obtain⟨fn,J,h1,h2,F,D⟩:=YF h;exact A _ _ _ _ _ D
   cases h
  .unfold Bj at h;split at h;.exact aF2 h
   cases h
  .unfold GX at h;split at h;.exact aDA h
   cases h
  cases h
 |_=>cases h
theorem WJ(u:ib aae){H:aj}{o:Op}(h:bR P ng aae T H o=O (v,H')):iM H H':=by
 unfold bR at h;split at h;.unfold iG at h;grind[iM.refl]
 .unfold iG at h;grind[iM.refl]
 .unfold sy at h;grind[aal]
 exact avN u h
def jV(P:aA)(ng:R)(aae:bg):Prop:=∀f args H v H',aae f args H=O (v,H')->∀Bqq ρ w y,jU Bqq ng ρ H w->WF H->ll ρ H.ae H'.ae->dS ρ args y->Calls P f ⟨y⟩ w (λ e A=>∃x u,e=.returned x/\bW u v x/\cW Bqq ng H.ah.get H.ae H'.ae ρ w H'.ah.get H'.aV.get u A)
variable{Bqq:R}
def aEU{H:aj}{w:cG}(s:jU Bqq ng ρ H w){t:bj}{p:au}{N J:ye}(Z:bW ρ p N)(Y:bW ρ v J)(h:dD P H t p v=O H'):
 ∃w',(axs t N J).run P w=.ok () w'/\cW Bqq ng H.ah.get H.ae H'.ae ρ w H'.ah.get H'.aV.get ρ w':=by
 unfold dD at h;split at h<;>try cases h
 rename_i x off i hi;split at h;.rename_i y;have y:=beq_true y;obtain⟨l0,M,rfl⟩:=Z;have u:=DK Y;have K:=pY u;obtain⟨l,C,e,S,hb,D,A,_,F⟩:=TP s h u;rw[M]at S;cases S;refine⟨_,?_,F⟩;simp[axs,adI,storeVar,sizeOf,yn,hi,(show J.cells.size=i.size by simp at K;omega),Sa hb D A]
 .cases h
def aCX{H:aj}{w:cG}(s:jU Bqq ng ρ H w)(wf:WF H){ts:abB bj}(hl:dS ρ l ls)(h:iC P H ts.toList l=O (v,H'))(F:ll ρ H.ae H'.ae)(ty:bj):
 ∃x S w',(Bs ts ty ⟨ls⟩).run P w=.ok x w'/\bW S v x/\cW Bqq ng H.ah.get H.ae H'.ae ρ w H'.ah.get H'.aV.get S w':=by
 unfold iC at h;split at h<;>try cases h
 rename_i t u sa xa aw;obtain⟨sv,ys,rfl,A,am⟩:=ep.1 hl;obtain⟨xv,zs,rfl,D,ai⟩:=ep.1 am;obtain rfl:=pM.1 ai;have ab:ts= #[t,u]:=bP;subst ab;split at h<;>try cases h
 rename_i e du ht hu;split at h<;>try cases h
 rename_i i hi;split at h<;>try cases h
 rename_i z K hz;have K:=beq_false K;obtain⟨i',zv,ag,Y,ak⟩:=IE hz;rw[hi]at ag;cases ag;have Z:=DK (ak ρ);have al:=pY Z;simp at al;split at h
 ·
  rename_i k k' m y;have y:=beq_true y;split at h
  .rename_i M;have M:=beq_true M;subst M;split at h<;>try cases h
   rename_i len ad;split at h;.rename_i N;have N:=beq_true N;subst N;cases h;obtain⟨J,c',rfl,_⟩:=Kn A ad;cases D;exact⟨_,ρ,w,ae9 ht hu hi J 0 c' (kG _),A,cW.refl s _ _⟩
   .rename_i bb c _ ar;split at h<;>try cases h
    rename_i af;have af:=iT af;obtain⟨base,n',cap,rfl,av,_⟩:=Uv s A ar;obtain⟨J,c',he,_⟩:=Kn A ad;injection he with e1 e2 e3;cases D;exact⟨_,ρ,w,ae9 ht hu hi base n' cap aa,A,cW.refl s _ _⟩
   cases h
  split at h;.rename_i h1 h2;have h3:1<=m:=iT (adQ.1 h2).2;cases D;exact ahI s wf ht hi Y aa aa A (abv Z m) (by rw[S9,y]) (.inr ⟨k,k',hu,rfl,(iT (adQ.1 h2).1),(iT h1),Nat.mul_ne_zero aa K,rfl⟩) h F
  cases h
 .rename_i d y;have y:=beq_true y;split at h
  .rename_i m hm;split at h;.rename_i new ac;obtain⟨fG,ap,ao,an⟩:=O3 (P:=P) s D ac;obtain⟨b,c,he,aq⟩:=Kn D hm;exact ahI s wf ht hi Y aa aa A ap ao (.inl ⟨d,hu,aq,an⟩) h F
   cases h
  cases h
 .cases h
def aIp(a b:R):min2 a b=azE a b:=by
 unfold min2;cases h:th a b;.rw[show azE a b=b from Nat.min_eq_right (by have:=aaY h;omega)]
 rw[show azE a b=a from Ow (iT h)]
def aqI{H:aj}{w:cG}(s:jU Bqq ng ρ H w){ts:abB bj}(hl:dS ρ l ls)(h:wR P H ts.toList l=O (v,H'))(ty:bj):
 ∃x w',(amA ts ty ⟨ls⟩).run P w=.ok x w'/\bW ρ v x/\cW Bqq ng H.ah.get H.ae H'.ae ρ w H'.ah.get H'.aV.get ρ w':=by
 unfold wR at h;split at h<;>try cases h
 rename_i t tr da sa aa;obtain⟨dv,ys,rfl,F,Z⟩:=ep.1 hl;obtain⟨sv,zs,rfl,D,af⟩:=ep.1 Z
 have u:ts[0]? =O t:=by
  have:ts.toList[0]? =O t:=by rw[aa];rfl
  rw[<-this];simp
 split at h<;>try cases h
 rename_i e ht;split at h<;>try cases h
 rename_i i nd ns hi ac ab;obtain⟨db,dc,rfl,_⟩:=Kn F ac;obtain⟨sb,sc,ag,K⟩:=Kn D ab;rw[aIp]at h;split at h;.rename_i J;cases h;obtain⟨xs,A,_,y⟩:=O3 (P:=P) s D J;obtain rfl:=pM.1 A;refine⟨ap3 _,w,?_,rfl,cW.refl s _ _⟩;cases db<;>simp[amA,u,j2 ht,sizeOf,yn,hi,K,y,apF]
 .rename_i new v' off len lim ai J;split at h<;>try cases h
  rename_i H1 hw;obtain⟨xs,A,_,y⟩:=O3 (P:=P) s D J;obtain⟨l0,C,e',N,hb,S,M,_,Y⟩:=TP s hw A;refine⟨ap3 _,_,?_,rfl,Y⟩
  have ad:db=O ⟨l0.cU,l0.off+off,X⟩:=by
   cases lim;.obtain⟨l1,q1,q2⟩:=F;rw[N]at q1;cases q1;injection q2 with q3 _ _
   rename_i c;obtain⟨l1,q1,q2⟩:=F;rw[N]at q1;cases q1;injection q2 with q3 _ _
  subst ad;simp[amA,u,j2 ht,sizeOf,yn,hi,K,y,Sa (P:=P) hb S M]
 .cases h
theorem ahY(hc:jV P ng aae){H:aj}{w:cG}(s:jU Bqq ng ρ H w)(wf:WF H)(hT:hY ρ n T a.tmps)(h:uV P ng aae T H o.op=O (v,H'))
 (J:ll ρ H.ae H'.ae) {K:Act->cG->Prop} {Qqq:rm}
 (hK:∀x D N,bW D v x->cW Bqq ng H.ah.get H.ae H'.ae ρ w H'.ah.get H'.aV.get D N->K (a.put o.dst x) N):o.wp P a w K Qqq:=by
 have Z:Dm ng ρ:=s.lW;obtain⟨dst,op,F,aa,Y,guard⟩:=o;cases op with
 |store t x y=>
  change xG P H t (cy ng T x) (cy ng T y)=_ at h;unfold xG at h;split at h
  .rename_i p q hx hy;split at h<;>try cases h
   rename_i H1 hs;obtain⟨N,u,A⟩:=aEU s (jq hT Z hx) (jq hT Z hy) hs;simp only[afh,MO,nr,u,sr,BS,aiE];exact(hK undef ρ N (P2 ρ) A)
  cases h
 |call c=>
  obtain⟨S,args,ts⟩:=c;cases S with
  |value f=>
   change ud P aae H (cy ng T f) _=_ at h;unfold ud at h;split at h
   .rename_i g first cap l hf hl
    obtain⟨fn,cd,h1,h2,h3,h4⟩:=YF h;obtain⟨xs,ys,he,ac,ab⟩:=jq hT Z hf;have M:(⟨xs⟩:kA)++args.map a.eval++⟨ys⟩=⟨xs++args.toList.map a.eval++ys⟩:=aw;have u:(MO a.eval ⟨dst,.call ⟨.value f,args,ts⟩,F,aa,Y,guard⟩).run P w=.ok (.enter g ⟨xs++args.toList.map a.eval++ys⟩) w:=by simp only[MO,resolve,he,Deferred.ofValue,nr,BS,sr,ap1,callFunc,acC,h1,M];simp[by simpa using h3,h2]
    simp only[afh,u,aiE];refine(hc g _ H v H' h4 Bqq ρ w _ s wf J (L6 (L6 ac (Hh hT Z hl)) ab)).mono λ e N ⟨x,D,ad,hr,A⟩=>?_
    grind
   cases h
  |builtin b=>
   cases b with
   |append=>
    change Bj P H ts.toList _=_ at h;unfold Bj at h;split at h;.rename_i l hl;obtain⟨x,D,N,u,hr,A⟩:=aCX s wf (Hh hT Z hl) h J F;simp only[afh,MO,resolve,nr,BS,sr,ap1,agm,(LU:args.map a.eval=⟨args.toList.map a.eval⟩),u,aiE];exact(hK x D N hr A)
    cases h
   |copy=>
    change GX P H ts.toList _=_ at h;unfold GX at h;split at h;.rename_i l hl;obtain⟨x,N,u,hr,A⟩:=aqI s (Hh hT Z hl) h F;have M:args.map a.eval=⟨args.toList.map a.eval⟩:=LU;simp only[afh,MO,resolve,nr,BS,sr,ap1,agm,M,u,aiE];exact(hK x ρ N hr A)
    cases h
   |_=>cases h
  |invoke r m=>cases h
 |_=>cases h
end
section
variable{T:aM}{aae:bg}{aag:dV}
variable{P:aA}{ng n Bqq:R}{ρ:dO}
theorem auR(hc:jV P ng aae){H M:aj}{w:cG}(s:jU Bqq ng ρ H w)(wf:WF H)(S:hY ρ n T a.tmps){v:au}(h:bR P ng aae T H o.op=O (v,M))
 (y:ll ρ H.ae M.ae) {K:Act->cG->Prop} {Qqq:rm}
 (Y:∀x A w',bW A v x->cW Bqq ng H.ah.get H.ae M.ae ρ w M.ah.get M.aV.get A w'->K (a.put o.dst x) w'):o.wp P a w K Qqq:=by
 unfold bR at h;split at h;.unfold iG at h;split at h<;>cases h;rename_i v' F;obtain⟨x,hx,u⟩:=ahz S s.lW F;rw[afh,u w];exact(Y x ρ w hx (cW.refl s _ _))
 .unfold iG at h;split at h<;>cases h;rename_i v' F;obtain⟨x,hx,u⟩:=agX s S F;rw[afh,u];exact(Y x ρ w hx (cW.refl s _ _))
 .unfold sy at h;split at h<;>cases h;rename_i Z sz m F;obtain⟨C,e,D,u⟩:=aiv S s.lW F;have J:=Xe (w':=w.alloc _) (e:=e) s (y _ (aZ _) (kF _)) (λ v r N=>⟨Oo (wf v r N).1,Oo (wf v r N).2⟩) Z V sz _ (by simpa using(pY D)) (aZ _) (λ _=>rfl) (λ i c hc=>by grind[vL]) Q Q Q Q
  have N:bW (iH ρ H.ae (O ⟨w.heap.size,0,Z.length,sz⟩)) (yu H.ae m) (BU w.heap.size m (Z.length/sz)):=by
   cases m;.exact⟨_,iW _ _ _,Q⟩
   rename_i k;exact⟨_,iW _ _ _,Q⟩
  have:=Y _ _ _ N (by show cW Bqq ng _ _ _ ρ w (H.ah.set _ _).get (H.aV.set _ _).get _ _;rw[yF,yF];exact J)
  rw[afh,u w];exact this
 grind[ahY]
def am1(F:hY ρ n T a.tmps)(o:Oper):cn aag.toList T o=aeo o (yielded aag a.tmps):=by
 unfold cn aeo;cases M:o.guard;.rfl
 rename_i J;obtain⟨j⟩:=J;simp only[];unfold yielded;rw[adR];cases K:aag[j]?;.rfl
 rename_i D;simp;cases N:D.dst;.rfl
 rename_i d;simp;have u:=F.get d;rw[qh]at u;cases A:a.tmps[d]?
 .rw[A]at u;cases y:ai T d with
  |bool b=>rw[y]at u;cases u
  |_=>rfl
 rename_i x;rw[A]at u;cases y:ai T d with
 |bool b=>rw[y]at u;subst u;simp
 |int _ _=>rw[y]at u;cases u;simp
 |str _=>rw[y]at u;cases u;simp
 |fq=>rw[y]at u;cases u;simp
 |ptr _ _=>rw[y]at u;obtain⟨l,_,rfl⟩:=u;simp
 |aq=>rw[y]at u;cases u;simp
 |slice _ _ _ lim=>rw[y]at u;cases lim<;>(obtain⟨l,_,rfl⟩:=u;simp)
 |eY=>rw[y]at u;obtain⟨l,_,rfl⟩:=u;simp
 |nilFunc=>rw[y]at u;cases u;simp
 |iface=>rw[y]at u;rcases u with rfl|⟨_,_,rfl⟩<;>simp
 |func _ _ _=>rw[y]at u;obtain⟨_,_,rfl,_⟩:=u;simp
 |agg _=>rw[y]at u;obtain⟨_,rfl,_⟩:=u;simp
 |tuple _=>rw[y]at u;obtain⟨_,rfl,_⟩:=u;simp
def put_defers(a:Act)(d:fV)(v:ye):(a.put d v).defers=a.defers:=by cases d<;>rfl
def zR(aae:bg)(aag:dM)(o:Oper)(l:dM)(T:aM)(H:aj):
 gv P ng aae n aag (o::l) T H=if cn aag T o then(match bR P ng aae T H o.op with|some r=>gv P ng aae n aag l (dZ n T o.dst r.1) r.2|none=>X)else gv P ng aae n aag l (dZ n T o.dst (.tuple [])) H:=by
 show vi (motive:=λ _=>gw _) _ _ _=_;cases cn aag T o;.rfl
 .cases bR P ng aae T H _<;>rfl
def Lh(y:ib aae){aag:dM}:∀{l:dM} {T A:aM} {H u:aj},gv P ng aae n aag l T H=O (A,u)->iM H u
 |[],T,A,H,u,h=>by cases h;exact iM.refl _
 |o::l,T,A,H,u,h=>by
  rw[zR]at h;split at h
  .split at h;.rename_i r D;exact(WJ y D).trans (Lh y h)
   cases h
  exact Lh y h
def ll.sub{u hi':R}(h:ll ρ lo hi)(h1:lo<=u)(h2:hi'<=hi):ll ρ u hi':=λ v a b=>h v aa aa
def ll.Iz{D y:fE}{A:vd}{F:R}{u:dO}{w J:cG}(h:ll ρ lo hi)(c:cW Bqq ng D lo F ρ w y A u J)(h1:lo<=F):ll u F hi:=λ v a b=>(c.ext v (λ k=>aa))▸h v aa b
theorem V4(hc:jV P ng aae)(A:ib aae){Qqq:rm}:∀(l:dM) (k:R) (T K:aM) (H D:aj) (ρ:dO) (a:Act) (w:cG),aag.toList.drop k=l->
 gv P ng aae n aag.toList l T H=O (K,D)->jU Bqq ng ρ H w->WF H->ll ρ H.ae D.ae->hY ρ n T a.tmps->a.defers=[]->
 (∀Y Z y,hY y n K Y.tmps->Y.defers=[]->cW Bqq ng H.ah.get H.ae D.ae ρ w D.ah.get D.aV.get y Z->Qqq .normal Y Z)->wpOps P aag Qqq (List.range' k l.length) a w
 |[],k,T,K,H,D,ρ,a,w,_,h,s,wf,S,J,hd,hQ=>by cases h;exact hQ a w ρ J hd (cW.refl s _ _)
 |o::l,k,T,K,H,D,ρ,a,w,hl,h,s,wf,S,J,hd,hQ=>by
  have ho:aag[k]? =O o:=by
   have:(aag.toList.drop k)[0]? =O o:=by rw[hl];rfl
   grind
  have N:aag.toList.drop (k+1)=l:=by rw[<-sJ,hl];rfl
  rw[zR]at h;rw[rO,List.range'_succ,wpOps_cons];unfold wpOp;simp[ho];rw[<-am1 J o];split at h
  .rename_i hw;rw[aY hw];left;split at h;.rename_i r hr;obtain⟨v,H1⟩:=r;have g1:=WJ A hr;have g2:=Lh A h;refine auR hc s wf J hr (S.sub (aZ _) g2.1) (λ x y Z hx u=>?_);exact V4 hc A l _ _ K H1 D y _ Z N h u.cA (g1.2 wf) (S.Iz u g1.1) ((J.mono (u.O7 (S.sub (aZ _) g2.1))).put _ hx) (by rw[put_defers];exact hd) (λ Y aa M ac ab F=>hQ Y aa M ac ab (u.trans F g1.1 g2.1))
   cases h
  rename_i hw;exact(aR hw)▸V4 hc A l _ _ K H D ρ _ w N h s wf S (J.put _ (P2 ρ)) (by rw[put_defers];exact hd) hQ
end
end
end Go.Abs
