/- Summaries. -/
import Derived.Test.YtkencjbbibdamaaGreatDoorB
import Derived.Shelf.Sort.Plain
set_option linter.all false
namespace Go.Abs
noncomputable section
open Go
variable{R:FuncId->List aa->ah->aa×ah->Prop}{args:List aa}
section
variable{P:Program}{ng B:Nat}{ρ:cr}
def jx(a:List Int):List aa:=a.map (aa.int .i64)
def uc(a:List Int):List Value:=a.map (Value.int .i64)
def We:∀(a:List Int),cJ ρ (jx a) (uc a)
 |[]=>rfl
 |z::a=>dg.2 ⟨_,_,rfl,rfl,We a⟩
def aba:∀{a:List Int} {D:List Value},cJ ρ (jx a) D->D=uc a
 |[],_,h=>nH.1 h
 |z::a,_,h=>by obtain⟨y,F,rfl,A,q⟩:=dg.1 h;rw[aba q];have A:y=.int .i64 z:=A;rw[A];rfl
theorem cp.more{y:Nat->Option Row}{lo hi:Nat}{w:World}{a:Nat->Option Row}{fam':Nat->Option (List Nat)}{ρ':cr}{q h:World}(c:cp B ng y lo hi ρ w a fam' ρ' q){os:Array Obj}
 (D:h.heap=q.heap++os) (A:h.os=q.os) (G:h.tape=q.tape) (J:h.output=q.output):cp B ng y lo hi ρ w a fam' ρ' h where
 bN:=c.bN.kept (by rw[D];simp) (λ b F=>by grind)
 ext:=c.ext
 os:=A.trans c.os
 tape:=G.trans c.tape
 output:=J.trans c.output
 size:=by have:=c.size;rw[D];simp;omega
 qj:=λ b F K=>by rw[D,Array.getElem?_append_left (by have:=c.size;omega)];exact c.qj b F K
 oO:=c.oO
 pA:=c.pA
theorem apF{w:World}{bC off k:Nat}{C:Array Value}{e:TypeId}{fz:Nat×Nat}(y:w.heap[bC]? =some (.cells C e fz))(zs:List Int)(a:off+zs.length<=C.size):
 (Sort.putRow (Value.int .i64) (Sort.ahead w k) bC off zs.toArray).heap=(putRow w bC off C (uc zs)).heap:=by
 have h:(uc zs).length=zs.length:=by simp[uc]
 apply Array.ext_getElem?;intro j;by_cases q:j=bC
 .subst q;have A:(putRow w j off C (uc zs)).heap[j]? =some (.cells (C.toList.take off++uc zs++C.toList.drop (off+(uc zs).length)).toArray e fz):=IW w j C _ e fz y;rw[A];have D:(Sort.putRow (Value.int .i64) (Sort.ahead w k) j off zs.toArray).heap[j]? =some (.cells (Sort.putCells (Value.int .i64) off zs.toArray C) e fz):=by grind[Sort.putRow,Sort.mapBlock,Sort.ahead,Sort.onCells]
  rw[D]
  congr 2
  apply Array.ext_getElem?;intro i;rw[Fp (by rw[h];exact a)];grind[Sort.putCells,uc]
 grind[putRow,Kq,Sort.putRow,Sort.mapBlock,Sort.ahead]
def avT(w:World)(bC off:Nat)(a:List Int)(w':World):Prop:=∃n os,w'=Sort.grow (Sort.putRow (Value.int .i64) (Sort.ahead w n) bC off a.toArray) os
theorem ahB{H H':ah}{w:World}{v n:Nat}{zs new:List Int}{f:FuncId}{res:Loc->Value}(s:jj B ng ρ H w)(hr:bq H.objs.get v 0 n=some (jx zs))(hw:gM H v 0 (jx new)=some H')(Z:∃r,H.objs.get v=some r/\r.sz=1)
 (G:∀bC off cap,Sort.Holds (Value.int .i64) w bC off zs.toArray->bC<w.heap.size->zs.length<=cap->Calls P f #[.slice (some ⟨bC,off,none⟩) zs.length cap] w (λ e w'=>e=.returned (res ⟨bC,off,cap,1⟩)/\avT w bC off new w'))
 {xs:List Value} (hx:cJ ρ [.slice v 0 n none] xs):
 Calls P f ⟨xs⟩ w (λ e w'=>∃l,ρ v=some l/\l.sz=1/\e=.returned (res l)/\cp B ng H.objs.get H.next H'.next ρ w H'.objs.get H'.aG.get ρ w'):=by
 obtain⟨y,ys,rfl,hy,h⟩:=dg.1 hx;obtain rfl:=nH.1 h;obtain⟨l,M,rfl⟩:=hy;obtain⟨l1,C,e,fz,ys,F,N,hn,hv,af,hC⟩:=HL s hr;rw[M]at F;cases F;have h:=aba hv;have S:zs.length=n:=by simpa[jx]using hn
 obtain⟨l2,C2,e2,D,K,ad,_,ag,CN⟩:=SC s hw (We new);rw[M]at D;cases D;rw[N]at K;cases K;obtain⟨r,q,ab⟩:=Z;obtain⟨l3,C3,e3,aj,A,J,ok⟩:=s.row v r q;rw[M]at A;cases A;rw[N]at J;cases J;have a:l.sz=1:=by rw[ok.sz,ab]
 have ae:n<=l.cap:=by have ac:=ok.len;grind[bq]
 have dL:Sort.Holds (Value.int .i64) w l.bC l.off zs.toArray:=by
  intro j hj;have ai:j<zs.length:=by simpa using hj
  refine⟨?_,?_⟩
  .have hy:ys[j]? =some (.int .i64 zs[j]):=by grind[uc]
   grind[cell_of_row]
  simp[World.frozen?,N]
 have hc:=G l.bC l.off l.cap dL (SX N) (by omega);have L:(⟨[Value.slice (some ⟨l.bC,l.off+0,none⟩) n ((l.cap- 0)/l.sz)]⟩:Array Value)= #[.slice (some ⟨l.bC,l.off,none⟩) zs.length l.cap]:=by rw[S,a];simp
 rw[L];refine hc.mono λ en w' ⟨he,k,os,Y⟩=>⟨l,M,a,?_,?_⟩
 .have:(⟨l.bC,l.off,l.cap,1⟩:Loc)=l:=by cases l;simp at a;simp[a]
  rw[this]at he;exact he
 .subst Y;refine cp.more (os:=os) CN ?_ rfl rfl rfl;show(Sort.putRow (Value.int .i64) (Sort.ahead w k) l.bC l.off new.toArray).heap++os=_;grind[apF,uc]
end
section
variable{a b:aa}
def gR(l:List Nat):List UInt8:=List.rec (motive:=λ _=>List UInt8) [] (λ a _ h=>UInt8.ofNat a::h) l
def pr(sz:Nat)(cells:List aa):Row:=⟨cells,0,0,false,true,sz⟩
def J4:aa->aa->Bool
 |.bool a,.bool b=>a==b
 |.int k a,.int j b=>decide (k=j)&&Kt a b
 |.str a,.str b=>AG a b
 |.nilPtr,.nilPtr=>true
 |.ai,.ai=>true
 |_,_=>false
def Cz:List aa->List aa->Bool
 |[],[]=>true
 |a::Z9,b::bs=>J4 a b&&Cz Z9 bs
 |_,_=>false
def LQ:aa->aa->Bool
 |.tuple Z9,.tuple bs=>Cz Z9 bs
 |a,b=>J4 a b
theorem WG(h:J4 a b=true):a=b:=by unfold J4 at h;grind[ZR,Qx]
theorem adM:∀{Z9 bs:List aa},Cz Z9 bs=true->Z9=bs
 |[],[],_=>rfl
 |a::Z9,b::bs,h=>by simp only[Cz,aR]at h;rw[WG h.1,adM h.2]
 |[],_::_,h=>by simp[Cz]at h
 |_::_,[],h=>by simp[Cz]at h
theorem ayL(h:LQ a b=true):a=b:=by unfold LQ at h;grind[adM,WG]
def Dy(r:aa)(x:Option (aa×ah)):Bool:=Option.rec (motive:=λ _=>Bool) false (λ p=>LQ r p.1) x
def acX{r:aa}{x:Option (aa×ah)}(h:Dy r x=true):∃H',x=some (r,H'):=by
 cases x;.cases h
 rename_i p;exact⟨p.2,by rw[ayL (show LQ r p.1=true from h)]⟩
def Pt{P:Program}{ng:Nat}{S:qt}{sm:DO}(y:DD P ng sm)(q:sK P)(m:Nat)(D:S.ok ng=true)(A:Dy S.res (uV P ng sm m S.f S.args S.H)=true):FZ P ng S:=by obtain⟨H',h⟩:=acX A;exact⟨D,_,H',Wv y q m,h⟩
def an6(P:Program)(ng:Nat):DD P ng (uo []):=Jy λ _ h=>by cases h
end
section
variable{r:aa×ah}
theorem ar8{P:Program}{ng:Nat}{Z7:aW}(hc:jN P ng Z7){f:FuncId}{h0 H1:ah}{v:aa}(L:Z7 f [] h0=some (v,H1))(A:v.TR=true)
 (K:∀c r,h0.objs.get c=some r->c<ng/\r.ro=true/\r.aC<h0.next/\r.cells.all aa.plain=true) (ab:ng<=h0.next)
 {H:ah} (hH:∀c r,h0.objs.get c=some r->H.objs.get c=some r):∀B ρ w M,jj B ng ρ H w->cJ ρ [] M->Calls P f ⟨M⟩ w (λ e w'=>∃x,e=.returned x/\bj ρ v x/\cp B ng H.objs.get H.next H.next ρ w H.objs.get H.aG.get ρ w'):=by
 intro B ρ w M s J
 have D:jj w.heap.size ng (λ c=>if c<ng then ρ c else none) h0 w:={
  base:=be _
  iT:=λ g hg=>by obtain⟨c,z,e⟩:=s.iT g hg;grind
  row:=λ c r Y=>by obtain⟨ad,F,_,ac⟩:=K c r Y;obtain⟨l,C,t,fz,hl,Z,ok⟩:=s.row c r (hH c r Y);refine⟨l,C,t,fz,by grind,Z,⟨ok.len,ok.cap,ok.ex,ok.sz,λ h=>(by rw[F]at h;cases h),λ h=>(by rw[F]at h;cases h),λ i a ha=>?_⟩⟩;obtain⟨x,hx,S⟩:=ok.cells i a ha;grind[Uh]
  sep:=λ u v ru rv lu lv _ hu S _ _ _=>.inl ⟨(K u ru hu).2.1,(K v rv S).2.1⟩
  aC:=λ v r mem S F _=>by grind}
 have wf:WF h0:=λ c r Y=>by grind
 have G:ju (λ c=>if c<ng then ρ c else none) h0.next H1.next:=λ c h1 _=>by grind
 have N:M=[]:=nH.1 J;subst N;refine(hc _ _ _ _ _ L _ _ _ _ D wf G rfl).mono λ e w' ⟨x,ρ',he,hx,q⟩=>?_
 have y:=cp.below D q;refine⟨x,he,adJ A hx,?_⟩
 exact{
  bN:=s.kept q.size y
  ext:=λ _ _=>rfl
  os:=q.os
  tape:=q.tape
  output:=q.output
  size:=q.size
  qj:=λ b Z _=>y b Z
  oO:=λ v r l a b c=>.inr ⟨v,r,l,a,b,c,rfl⟩
  pA:=λ _ _ h _=>h}
open Classical in
noncomputable def si(R:FuncId->List aa->ah->aa×ah->Prop):aW:=λ f args H=>if h:∃r,R f args H r then some (Classical.choose h)else none
theorem QJ{f:FuncId}{H:ah}(h:si R f args H=some r):R f args H r:=by
 unfold si at h;split at h;.grind
 cases h
theorem IA{f:FuncId}{H:ah}(h:R f args H r):∃r',si R f args H=some r'/\R f args H r':=by have a:∃r,R f args H r:=⟨r,h⟩;grind[si]
theorem arK{f:FuncId}{H:ah}(h:∀r,¬R f args H r):si R f args H=none:=by grind[si]
end
end
end Go.Abs
