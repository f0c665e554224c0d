/- The shelf's contracts. -/
import Derived.Test.YtkhnencepibcpaaGreatB
import Derived.Shelf.Sort.Plain
import Derived.Ground.Names2Prog
import Derived.Shelf.Slices.CompactI
import Derived.Shelf.Slices.In.SortNone
import Derived.Test.YtkhnencepibcpaaGreatProg
set_option linter.all false
namespace Go.Abs
open Go.Abs
noncomputable section
open Go
variable{P:aA}{ng Bqq:Nat}{ρ:dO}
def gZ(u:aK):aF:=u.map (au.int .i64)
def Be(u:aK):jZ:=u.map (Value.int .i64)
def anC:∀(u:aK),dS ρ (gZ u) (Be u)
 |[]=>rfl
 |z::u=>ep.2 ⟨_,_,rfl,rfl,anC u⟩
def XN:∀{u:aK} {D:jZ},dS ρ (gZ u) D->D=Be u
 |[],_,h=>pM.1 h
 |z::u,_,h=>by obtain⟨y,J,rfl,F,A⟩:=ep.1 h;rw[XN A,F];rfl
def cW.more{J:fE}{lo N:Nat}{w:cG}{u:fE}{y:vd}{A:dO}{F D:cG}(c:cW Bqq ng J lo N ρ w u y A F){os:Array Obj}
 (M:D.heap=F.heap++os) (K:D.os=F.os) (S:D.tape=F.tape) (Y:D.output=F.output):cW Bqq ng J lo N ρ w u y A D where
 cA:=c.cA.kept (by rw[M];simp) (λ b P=>bP)
 ext:=c.ext
 os:=K.trans c.os
 tape:=S.trans c.tape
 output:=Y.trans c.output
 size:=by have:=c.size;rw[M];simp;omega
 vT:=λ b P Z=>by rw[M,Array.getElem?_append_left (by have:=c.size;omega)];exact c.vT b P Z
 tl:=c.tl
 vq:=c.vq
theorem arA{w:cG}{cU off k:Nat}{C:kA}{e:bj}{fz:sj}(D:w.heap[cU]? =some (.cells C e fz))(u:aK)(y:off+u.length<=C.size):
 (Sort.putRow (Value.int .i64) (Sort.ahead w k) cU off u.toArray).heap=(putRow w cU off C (Be u)).heap:=by
 apply Array.ext_getElem?;intro j;by_cases A:j=cU
 .subst A;have h2:(putRow w j off C (Be u)).heap[j]? =some _:=Pj w j C _ e fz D;rw[h2];have h1:(Sort.putRow (Value.int .i64) (Sort.ahead w k) j off u.toArray).heap[j]? =some (.cells (Sort.putCells (Value.int .i64) off u.toArray C) e fz):=by grind[Sort.putRow,Sort.mapBlock,Sort.ahead,Sort.onCells]
  rw[h1]
  congr 2
  apply Array.ext_getElem?;intro i;rw[Oi ((show(Be u).length=u.length by simp[Be])▸y)];grind[Sort.putCells,Be]
 grind[putRow,Us,Sort.putRow,Sort.mapBlock,Sort.ahead]
def aHs(w:cG)(cU off:Nat)(u:aK)(y:cG):Prop:=∃n os,y=Sort.grow (Sort.putRow (Value.int .i64) (Sort.ahead w n) cU off u.toArray) os
theorem ae4{H H':aj}{w:cG}{v n:Nat}{zs new:aK}{f:ck}{res:Loc->Value}(s:jU Bqq ng ρ H w)(hr:aQ H.ah.get v 0 n=some (gZ zs))(hw:write H v 0 (gZ new)=some H')(ad:∃r,H.ah.get v=some r/\r.sz=1)
 (M:∀cU off cap,Sort.Holds (Value.int .i64) w cU off zs.toArray->cU<w.heap.size->zs.length<=cap->Calls P f #[.slice (some ⟨cU,off,none⟩) zs.length cap] w (λ e Y=>e=.returned (res ⟨cU,off,cap,1⟩)/\aHs w cU off new Y))
 {xs:jZ} (hx:dS ρ [.slice v 0 n none] xs):
 Calls P f ⟨xs⟩ w (λ e Y=>∃l,ρ v=some l/\l.sz=1/\e=.returned (res l)/\cW Bqq ng H.ah.get H.ae H'.ae ρ w H'.ah.get H'.aV.get ρ Y):=by
 obtain⟨y,ys,rfl,hy,A⟩:=ep.1 hx;obtain rfl:=pM.1 A;obtain⟨l,Z,rfl⟩:=hy;obtain⟨l1,C,e,fz,ys,K,hb,hn,hv,al⟩:=Il s hr;rw[Z]at K;cases K;have A:=XN hv;have ab:=by simpa[gZ]using hn
 obtain⟨l2,C2,e2,J,N,ai,_,am,Iz⟩:=TP s hw (anC new);rw[Z]at J;cases J;rw[hb]at N;cases N;obtain⟨r,D,af⟩:=ad;obtain⟨l3,C3,e3,ao,F,an,ok⟩:=s.row v r D;rw[Z]at F;cases F;have u:l.sz=1:=by rw[ok.sz,af]
 have ak:n<=l.cap:=by have ag:=ok.len;grind[aQ]
 have cL:Sort.Holds (Value.int .i64) w l.cU l.off zs.toArray:=by
  intro j hj;refine⟨?_,by simp[World.frozen?,hb]⟩;have hy:ys[j]? =some (.int .i64 zs[j]):=by grind[Be]
  grind[cell_of_row]
 have S:⟨[Value.slice (some ⟨l.cU,l.off+0,none⟩) n ((l.cap- 0)/l.sz)]⟩= #[.slice (some ⟨l.cU,l.off,none⟩) zs.length l.cap]:=by rw[ab,u];simp
 rw[S];refine(M _ _ _ cL (RG hb) aa).mono λ en Y ⟨he,k,os,ac⟩=>⟨l,Z,u,?_,?_⟩
 .rw[(show⟨l.cU,l.off,l.cap,1⟩=l by cases l;simp at u;simp[u])]at he;exact he
 .subst ac;refine cW.more (os:=os) Iz ?_ rfl rfl rfl;show(Sort.putRow _ _ _ _ _).heap++os=_;grind[arA,Be]
open Go
variable{a b:au}
def by8(l:bG):jo:=List.rec (motive:=λ _=>jo) [] (λ a _ u=>UInt8.ofNat a::u) l
def pr(sz:Nat)(cells:aF):Row:=⟨cells,0,0,false,true,sz⟩
def Q8:au->au->Bool
 |.bool a,.bool b=>a==b
 |.int k a,.int j b=>decide (k=j)&&CS a b
 |.str a,.str b=>Gy a b
 |.fq,.fq=>true
 |.aq,.aq=>true
 |_,_=>false
def H8:aF->aF->Bool
 |[],[]=>true
 |a::u,b::bs=>Q8 a b&&H8 u bs
 |_,_=>false
def Y0:au->au->Bool
 |.tuple u,.tuple bs=>H8 u bs
 |a,b=>Q8 a b
theorem akL(h:Q8 a b=true):a=b:=by unfold Q8 at h;grind[Vi,acp]
theorem ajD:∀{u bs:aF},H8 u bs=true->u=bs
 |[],[],_=>rfl
 |a::u,b::bs,h=>by rw[H8,bq]at h;rw[akL h.1,ajD h.2]
 |[],_::_,h=>by simp[H8]at h
 |_::_,[],h=>by simp[H8]at h
theorem atP(h:Y0 a b=true):a=b:=by unfold Y0 at h;grind[ajD,akL]
def QM(r:au)(x:kO):Bool:=Option.rec (motive:=λ _=>Bool) false (λ p=>Y0 r p.1) x
def ai6{r:au}{x:kO}(h:QM r x=true):∃u,x=some (r,u):=by
 cases x;.cases h
 rename_i p;exact⟨p.2,by rw[atP (h)]⟩
open Go
variable{Rqq:an0}{args:aF}{r:xe}
theorem arW{P:aA}{J:Nat}{Z:bg}(hc:jV P J Z){f:ck}{h0 H1:aj}{v:au}(Y:Z f [] h0=some (v,H1))(D:v.aaK=true)
 (S:∀c r,h0.ah.get c=some r->c<J/\r.ro=true/\r.aI<h0.ae/\r.cells.all au.plain=true) (ab:J<=h0.ae)
 {H:aj} (hH:∀c r,h0.ah.get c=some r->H.ah.get c=some r):∀Bqq ρ w xs,jU Bqq J ρ H w->dS ρ [] xs->Calls P f ⟨xs⟩ w (λ e w'=>∃x,e=.returned x/\bW ρ v x/\cW Bqq J H.ah.get H.ae H.ae ρ w H.ah.get H.aV.get ρ w'):=by
 intro Bqq ρ w xs s N
 have F:jU _ J (λ c=>if c<J then ρ c else none) h0 w:={
  base:=aZ _
  lW:=λ g hg=>by obtain⟨c⟩:=s.lW g hg;grind
  row:=λ c r hr=>by obtain⟨ad,K,_⟩:=S c r hr;obtain⟨l,C,t,fz,hl,hb,ok⟩:=s.row c r (hH c r hr);refine⟨l,C,t,fz,bP,hb,⟨ok.len,ok.cap,ok.ex,ok.sz,λ h=>(by rw[K]at h;cases h),λ h=>(by rw[K]at h;cases h),λ i a ha=>?_⟩⟩;obtain⟨x⟩:=ok.cells i a ha;grind[YY]
  sep:=λ u v ru rv lu lv _ hu hv _ _ _=>.inl ⟨(S u ru hu).2.1,(S v rv hv).2.1⟩
  aI:=λ v r mem hv K _=>by grind}
 have wf:WF h0:=λ c r hr=>by grind
 have M:ll (λ c=>if c<J then ρ c else none) h0.ae H1.ae:=λ c h1 _=>by grind
 have aa:=pM.1 N;subst aa;refine(hc _ _ _ _ _ Y _ _ _ _ F wf M rfl).mono λ e w' ⟨x,ac,he,hx,y⟩=>?_
 have A:=cW.below F y;refine⟨x,he,alq D hx,?_⟩
 exact{
  cA:=s.kept y.size A
  ext:=λ _ _=>rfl
  os:=y.os
  tape:=y.tape
  output:=y.output
  size:=y.size
  vT:=λ b hb _=>A b hb
  tl:=λ v r l a b c=>.inr ⟨v,r,l,a,b,c,rfl⟩
  vq:=λ _ _ h _=>h}
open Classical in
noncomputable def As(Rqq:an0):bg:=λ f args H=>if h:∃r,Rqq f args H r then some (Classical.choose h)else none
theorem Mh{f:ck}{H:aj}(h:As Rqq f args H=some r):Rqq f args H r:=by
 unfold As at h;split at h;.grind
 cases h
theorem Gg{f:ck}{H:aj}(h:Rqq f args H r):∃r',As Rqq f args H=some r'/\Rqq f args H r':=by have u:∃r,Rqq f args H r:=⟨r,h⟩;grind[As]
end
end Go.Abs
namespace Go.Proofs
open Go.Abs
noncomputable section
open Go.Shelf
def Tryz.aGS:Go.Shelf.Ren:=⟨λ|189=>217|125=>275|257=>274|128=>335|129=>336|294=>327|295=>328|296=>329|297=>330|298=>331|299=>332|216=>272|300=>333|301=>334|328=>362|329=>363|330=>364|331=>365|332=>366|215=>326|343=>380|n=>n,λ|28=>50|3=>3|46=>299|0=>0|51=>356|53=>25|4=>4|183=>380|182=>379|131=>272|5=>5|9=>9|218=>403|222=>407|228=>422|229=>281|n=>n,λ|n=>n⟩
theorem Tryz.afF:Go.Proofs.Lays.n189 Tryz.prog Tryz.aGS:={
 mixed:=by kernel_rfl
 f125:=Tryz.func275.trans (fP some (by kernel_rfl))
 f128:=Tryz.func335.trans (fP some (by kernel_rfl))
 f129:=Tryz.func336.trans (fP some (by kernel_rfl))
 f189:=Tryz.func217.trans (fP some (by kernel_rfl))
 f215:=Tryz.func326.trans (fP some (by kernel_rfl))
 f216:=Tryz.func272.trans (fP some (by kernel_rfl))
 f257:=Tryz.func274.trans (fP some (by kernel_rfl))
 f294:=Tryz.func327.trans (fP some (by kernel_rfl))
 f295:=Tryz.func328.trans (fP some (by kernel_rfl))
 f296:=Tryz.func329.trans (fP some (by kernel_rfl))
 f297:=Tryz.func330.trans (fP some (by kernel_rfl))
 f298:=Tryz.func331.trans (fP some (by kernel_rfl))
 f299:=Tryz.func332.trans (fP some (by kernel_rfl))
 f300:=Tryz.func333.trans (fP some (by kernel_rfl))
 f301:=Tryz.func334.trans (fP some (by kernel_rfl))
 f328:=Tryz.func362.trans (fP some (by kernel_rfl))
 f329:=Tryz.func363.trans (fP some (by kernel_rfl))
 f330:=Tryz.func364.trans (fP some (by kernel_rfl))
 f331:=Tryz.func365.trans (fP some (by kernel_rfl))
 f332:=Tryz.func366.trans (fP some (by kernel_rfl))
 f343:=Tryz.func380.trans (fP some (by kernel_rfl))
 t0:=Tryz.underlying0
 a0:=Tryz.isAgg0
 z0:=Tryz.sizeOf0
 v0:=Tryz.zeroValue0
 t3:=Tryz.underlying3
 a3:=Tryz.isAgg3
 z3:=Tryz.sizeOf3
 v3:=Tryz.zeroValue3
 t4:=Tryz.underlying4
 a4:=Tryz.isAgg4
 z4:=Tryz.sizeOf4
 v4:=Tryz.zeroValue4
 t5:=Tryz.underlying5
 a5:=Tryz.isAgg5
 z5:=Tryz.sizeOf5
 v5:=Tryz.zeroValue5
 t9:=Tryz.underlying9
 a9:=Tryz.isAgg9
 z9:=Tryz.sizeOf9
 v9:=Tryz.zeroValue9
 t28:=Tryz.underlying50
 a28:=Tryz.isAgg50
 z28:=Tryz.sizeOf50
 v28:=Tryz.zeroValue50
 t46:=Tryz.underlying299
 a46:=Tryz.isAgg299
 z46:=Tryz.sizeOf299
 v46:=Tryz.zeroValue299
 t51:=Tryz.underlying356
 a51:=Tryz.isAgg356
 z51:=Tryz.sizeOf356
 v51:=Tryz.zeroValue356
 t53:=Tryz.underlying25
 a53:=Tryz.isAgg25
 z53:=Tryz.sizeOf25
 v53:=Tryz.zeroValue25
 t131:=Tryz.underlying272
 a131:=Tryz.isAgg272
 z131:=Tryz.sizeOf272
 v131:=Tryz.zeroValue272
 t182:=Tryz.underlying379
 a182:=Tryz.isAgg379
 z182:=Tryz.sizeOf379
 v182:=Tryz.zeroValue379
 t183:=Tryz.underlying380
 a183:=Tryz.isAgg380
 z183:=Tryz.sizeOf380
 v183:=Tryz.zeroValue380
 t218:=Tryz.underlying403
 a218:=Tryz.isAgg403
 z218:=Tryz.sizeOf403
 v218:=Tryz.zeroValue403
 t222:=Tryz.underlying407
 a222:=Tryz.isAgg407
 z222:=Tryz.sizeOf407
 v222:=Tryz.zeroValue407
 t228:=Tryz.underlying422
 a228:=Tryz.isAgg422
 z228:=Tryz.sizeOf422
 v228:=Tryz.zeroValue422
 t229:=Tryz.underlying281
 a229:=Tryz.isAgg281
 z229:=Tryz.sizeOf281
 v229:=Tryz.zeroValue281}
open Go.Sort Go.RowKit in
theorem Tryz.slices_Sort_int(cU off cap:Nat)(zs:List Int)(w:World)(hH:Holds (Value.int .i64) w cU off zs.toArray)(hblk:cU<w.heap.size)(hsz:zs.length<4611686018427387904):Calls Tryz.prog 217 #[.slice (some ⟨cU,off,none⟩) zs.length cap] w λ e w'=>e=.returned (.tuple #[])/\∃n os,w'=grow (putRow (Value.int .i64) (Sort.ahead w n) cU off (zs.mergeSort λ x y=>decide (x<=y)).toArray) os:=Any.slices_Sort_int Tryz.afF cU off cap zs w hH hblk hsz
def Tryz.aH7:Go.Shelf.Ren:=⟨λ|20=>311|n=>n,λ|22=>50|3=>3|4=>4|0=>0|n=>n,λ|n=>n⟩
theorem Tryz.anT:Go.Proofs.Lays2.n20 Tryz.prog Tryz.aH7:={
 mixed:=by kernel_rfl
 f20:=Tryz.func311.trans (fP some (by kernel_rfl))
 t0:=Tryz.underlying0
 a0:=Tryz.isAgg0
 z0:=Tryz.sizeOf0
 v0:=Tryz.zeroValue0
 t3:=Tryz.underlying3
 a3:=Tryz.isAgg3
 z3:=Tryz.sizeOf3
 v3:=Tryz.zeroValue3
 t4:=Tryz.underlying4
 a4:=Tryz.isAgg4
 z4:=Tryz.sizeOf4
 v4:=Tryz.zeroValue4
 t22:=Tryz.underlying50
 a22:=Tryz.isAgg50
 z22:=Tryz.sizeOf50
 v22:=Tryz.zeroValue50
 i3:=by kernel_rfl}
open Go.RowKit Go.Lib Go.Sort in
theorem Tryz.slices_Compact_int(cU off cap:Nat)(zs:List Int)(w:World)(hH:Holds (Value.int .i64) w cU off zs.toArray)(hsz:zs.length<=9223372036854775807)(hcap:zs.length<=cap):Calls Tryz.prog 311 #[.slice (some ⟨cU,off,none⟩) zs.length cap] w λ e w'=>e=.returned (.slice (some ⟨cU,off,none⟩) (Lib.compact zs).length cap)/\∃q,w'=putRow (Value.int .i64) (Sort.ahead w q) cU off (Lib.compact zs++List.replicate (zs.length-(Lib.compact zs).length) 0).toArray:=Any.slices_Compact_int Tryz.anT cU off cap zs w hH hsz hcap
open Go.RowKit Go.Lib Go.Sort in
theorem Tryz.slices_Compact_int_empty(a:Option Addr)(cap:Nat)(w:World):Calls Tryz.prog 311 #[.slice a 0 cap] w λ e w'=>e=.returned (.slice a 0 cap)/\w'=w:=Any.slices_Compact_int_empty Tryz.anT a cap w
open Go.RowKit Go.Sort in
theorem Tryz.slices_Sort_int_none(p:Option Addr)(cap:Nat)(w:World):Calls Tryz.prog 217 #[.slice p 0 cap] w λ e w'=>e=.returned (.tuple #[])/\w'=w:=Any.slices_Sort_int_none Tryz.afF p cap w
end
end Go.Proofs
