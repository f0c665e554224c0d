/- The abstract machine: regions, code, calls. -/
import Derived.Test.YtkhnencepibcpaaGreatA
import Derived.Orders
set_option linter.all false
open Array renaming all_eq_true_iff_forall_mem->aj1,replicate->vj
open Bool renaming rec->vi,false->W,true->V
open Go renaming Code->af8,Value->ye,wpAny->asb,wp_region_draw->aAA
open Go.Oper renaming apart_spec->alU,upon->aiE,wp->afh
open Go.Region renaming Mode->aeh,before->ah1,binds->HA,linearise->abg,ready->aba,schedule->atQ,wanted->aeo
open Nat renaming add_mul->ang,beq->gr,beq_refl->abN,ble->th,ble_eq_true_of_le->hP,strongRecOn->aw4
open Option renaming none->apq,rec->DT,none->X,some->O
open _root_ renaming Array->abB,Bool->mi,Int->U,List->B,Nat->R,Option->gw,absurd->akQ,rfl->Q
namespace Go.Abs
noncomputable section
open Go
variable{H':aj}{L M:kl}{P:aA}{Rqq:Ju}{S:jf}{T T':aM}{a b:U}{args cs:aF}{bef:oh}{aae:bg}{d i j k m off s sz v:R}{draw want:mi}{es:vM}{fm:bA}{fn:Func}{g:fE}{l aag:dM}{o oj:Oper}{objs0:kH}{p:Prop}{r:xe}{sm:QH}{t:bj}{w0:cG}{β:Type}{ρ ρ':dO}
section
variable{o:Op}{aag:dV}
variable{P:aA}{ng n Bqq:R}{ρ:dO}
theorem PU(m i:R):tb m i=m.testBit i:=by unfold tb;have e1:Nat.shiftRight m i=m/2^i:=aKa m i;rw[e1];show gr (m/2^i%2) 1=_;grind[gr]
theorem ag0(acc:abB R)(j:R):∀(es:B Edge) (s:R),(es.foldl (λ s e=>if HA .any e then s|||2^e.on|||acc.getD e.on 0 else s) s).testBit j=V->
 s.testBit j=V\/∃e∈es,HA .any e=V/\(e.on=j\/(acc.getD e.on 0).testBit j=V)
 |[],s,h=>.inl h
 |e::es,s,h=>by
  rcases ag0 acc j es _ h with h1|⟨u⟩
  .grind
  grind
def vu(acc:abB Nat)(o:Oper):abB Nat:=acc.push (o.after.foldl (λ s e=>if HA .any e then s|||2^e.on|||acc.getD e.on 0 else s) 0)
theorem ano:∀(l:dM) (acc:abB R),(l.foldl vu acc).size=acc.size+l.length/\(∀i,i<acc.size->(l.foldl vu acc)[i]? =acc[i]?)/\
 ∀k (o:Oper) j,l[k]? =O o->((l.foldl vu acc).getD (acc.size+k) 0).testBit j=true->∃e∈o.after.toList,HA .any e=true/\(e.on=j\/(e.on<acc.size+k/\((l.foldl vu acc).getD e.on 0).testBit j=true))
 |[],acc=>⟨Q,λ _ _=>rfl,λ k o j h=>by simp at h⟩
 |x::l,acc=>by
  obtain⟨h1,h2⟩:=ano l (vu acc x);have N:(vu acc x).size=acc.size+1:=by simp[vu]
  have u:∀i,i<acc.size->((x::l).foldl vu acc)[i]? =acc[i]? :=λ i P=>by grind[vu]
  refine⟨bP,u,λ k o j J A=>?_⟩;cases k
  .simp at J;subst J;have A:((l.foldl vu _).getD _ 0).testBit j=true:=A;have K:(l.foldl vu (vu acc x))[acc.size]? =O (x.after.foldl (λ s e=>if HA .any e then s|||2^e.on|||acc.getD e.on 0 else s) 0):=by grind[vu]
   rw[sK,qh,K,<-apB]at A;rcases ag0 acc j _ 0 A with h|⟨e,M,F,y⟩
   .simp at h
   refine⟨e,M,F,?_⟩;rcases y with y|y
   .exact .inl y
   have D:e.on<acc.size:=by grind
   refine .inr ⟨aa,?_⟩;rw[qh,u e.on D,<-qh];exact y
  rename_i k;grind
theorem aFk(h:tb (eA aag i) j=true):∃o,aag[i]? =O o/\∃e∈o.after.toList,HA .any e=true/\(e.on=j\/(e.on<i/\tb (eA aag e.on) j=true)):=by
 have y:ah1 aag=aag.toList.foldl vu #[]:=by unfold ah1;rw[<-apB];rfl
 have h:((ah1 aag).getD i 0).testBit j=true:=by rw[<-PU];exact h
 obtain⟨h1,_,A⟩:=ano aag.toList #[];rw[y]at h;have u:i<aag.toList.length:=by grind
 obtain⟨e⟩:=A i _ j (eg u) (by simpa using h);grind[PU,eA]
theorem af1{L:vH}(hL:∀i o e,L i->aag[i]? =O o->e∈o.after.toList->HA .any e=V->L e.on):
 ∀i,(L i\/∀o e,aag[i]? =O o->e∈o.after.toList->HA .any e=V->L e.on)->∀j,tb (eA aag i) j=V->L j:=by
 intro i;induction i using aw4 with
 |_ i u=>grind[aFk]
def D1(ng:R)(T T':aM)(u:uF):Prop:=∀x∈u,cy ng T x=cy ng T' x
def QF:∀{u:uF},D1 ng T T' u->ni ng T u=ni ng T' u
 |[],_=>rfl
 |x::u,h=>by rw[ZS,ZS,h x aw,QF (λ y A=>h y (by simp[A]))]
theorem XF:∀{u:rK},D1 ng T T' (u.map (·.2))->qA ng T u=qA ng T' u
 |[],_=>rfl
 |(i,x)::u,h=>by unfold qA;rw[h x aw,XF (λ y A=>h y (by simp at A⊢;exact .inr A))]
theorem nT(h:p:=by simp[Op.operands]):p:=h
theorem EK(h:p:=by grind[Op.operands,Call.operands]):p:=h
theorem Rc(h:p:=by grind[Op.operands]):p:=h
theorem aBe(h:D1 ng T T' o.operands.toList):nU P ng T o=nU P ng T' o:=by
 cases o with
 |move x=>exact h x nT
 |assign x=>exact h x nT
 |pick c a b=>show BE _ _ _=BE _ _ _;rw[h c nT,h a nT,h b nT]
 |build t J=>show mc P t _=mc P t _;grind[XF,Op.operands]
 |nilCheck x=>show Bt _=Bt _;rw[h x nT]
 |binOp u t x y F=>show DA P u t _ _=DA P u t _ _;rw[h x nT,h y nT]
 |unOp u t x=>show D4 u _=D4 u _;rw[h x nT]
 |convert s d x=>show sH P s d _=sH P s d _;rw[h x nT]
 |makeFunc fn first cap=>
  cases fn with
  |func f=>
   show Gp f _ _=Gp f _ _;rw[QF (λ x hx=>h x Rc),QF (λ x hx=>h x Rc)]
  |_=>rfl
 |fieldAddr s x f=>show Dk P s f _=Dk P s f _;rw[h x nT]
 |indexAddr t x ix=>show DI P t _ _=DI P t _ _;rw[h x nT,h ix nT]
 |index t x ix=>show D9 P t _ _=D9 P t _ _;rw[h x nT,h ix nT]
 |extract x i=>show CU i _=CU i _;rw[h x nT]
 |call c=>
  obtain⟨A⟩:=c;show Cn P ng T _=Cn P ng T' _;unfold Cn;dsimp only;split;.rename_i x _ D;rw[h x EK]
  .rename_i x y D;rw[h x EK,h y EK]
  .rename_i x y D;rw[h x EK,h y EK]
  rfl
 |_=>rfl
def afI{x:AR}(h:D1 ng T T' x.toList):vg ng T x=vg ng T' x:=by
 cases x;.rfl
 rename_i x;simp[vg];rw[h x aw]
def ayb(h:D1 ng T T' o.operands.toList):dY P ng T g o=dY P ng T' g o:=by
 cases o with
 |load t x=>show wk P g t _=wk P g t _;rw[h x nT]
 |slice t x lo D mx=>
  show xn P g t _ _ _ _=xn P g t _ _ _ _;rw[h x nT,afI (λ y A=>h y Rc),afI (λ y A=>h y Rc)]
 |call c=>
  obtain⟨u⟩:=c;show BN P ng T g _=BN P ng T' g _;unfold BN;dsimp only;split;.rename_i x _ F;rw[h x EK]
  rfl
 |_=>rfl
theorem aqZ(h:D1 ng T T' o.operands.toList):wM P ng T o=wM P ng T' o:=by
 cases o with
 |box t x=>show vW _=vW _;rw[h x nT]
 |buildSlice t len u=>show oW P t len _=oW P t len _;grind[XF,Op.operands]
 |makeSlice t l c=>show wu P t _ _=wu P t _ _;rw[h l nT,h c nT]
 |_=>rfl
def aFV{H:aj}(h:D1 ng T T' o.operands.toList):uV P ng aae T H o=uV P ng aae T' H o:=by
 cases o with
 |store t x y=>show xG P H t _ _=xG P H t _ _;rw[h x nT,h y nT]
 |call c=>
  obtain⟨u⟩:=c;show yT P ng aae T H _=yT P ng aae T' H _;unfold yT;rw[QF (λ x hx=>h x EK)];cases u with
  |value f=>dsimp only;rw[h f (by simp[Op.operands,Call.operands])]
  |builtin b=>cases b<;>rfl
  |invoke r m=>rfl
 |_=>rfl
end
section
variable{P:aA}{ng n Bqq:R}{ρ:dO}
theorem TZ(aae:bg)(aag:dM):∀(y u:dM) (T:aM) (H:aj),
 gv P ng aae n aag (y++u) T H=(match gv P ng aae n aag y T H with|some r=>gv P ng aae n aag u r.1 r.2|none=>X)
 |[],u,T,H=>rfl
 |o::y,u,T,H=>by
  rw[AX,zR,zR];split
  .cases bR P ng aae T H _;.rfl
   rename_i r;exact TZ aae aag y u _ _
  exact TZ aae aag y u _ _
structure qo (P:aA) (ng:R) (aae:bg) (n:R) (aag:dV) (Tt:uC) (Ht:sw) (vt:lB) (wt:kl):Prop where
 want:∀i o,aag[i]? =some o->wt i=cn aag.toList (Tt i) o
 yes:∀i o,aag[i]? =some o->wt i=true->bR P ng aae (Tt i) (Ht i) o.op=some (vt i,Ht (i+1))
 no:∀i o,aag[i]? =some o->wt i=false->vt i=.tuple []/\Ht (i+1)=Ht i
 tmp:∀i o,aag[i]? =some o->Tt (i+1)=dZ n (Tt i) o.dst (vt i)
theorem Wq{aag:dV}{J:aM}{K:aj}(h:gv P ng aae n aag.toList aag.toList J K=O (T',H')):
 ∃Tt Ht vt wt,qo P ng aae n aag Tt Ht vt wt/\Tt 0=J/\Ht 0=K/\Tt aag.size=T'/\Ht aag.size=H':=by
 have D:∀k,∃r,gv P ng aae n aag.toList (aag.toList.take k) J K=O r:=by grind[TZ,List.take_append_drop]
 let st:=λ k=>Classical.choose (D k)
 have h0:st 0=(J,K):=(tO (((λ k=>Et (D k)) 0).symm.trans Q));have hN:st aag.size=(T',H'):=by grind[List.take_of_length_le]
 have u:∀i o,aag[i]? =O o->gv P ng aae n aag.toList [o] (st i).1 (st i).2=O (st (i+1)):=by grind[List.take_add_one,TZ]
 refine⟨λ k=>(st k).1,λ k=>(st k).2,λ i=>match aag[i]?with|some o=>(if cn aag.toList (st i).1 o then(match bR P ng aae (st i).1 (st i).2 o.op with|some r=>r.1|none=>.tuple [])else .tuple [])|none=>.tuple [],λ i=>match aag[i]?with|some o=>cn aag.toList (st i).1 o|none=>W,⟨?_,?_,?_,?_⟩,by simp[h0],by simp[h0],by simp[hN],by simp[hN]⟩
 .intro i o y;rw[y]
 .intro i o y A;rw[y]at A⊢;have:=u i o y;rw[zR,aY A]at this;cases F:bR P ng aae _ _ o.op;.rw[F]at this;cases this
  rename_i r;rw[F]at this;have this:O _=O _:=this;grind
 .intro i o y A;rw[y]at A⊢;have:=u i o y;rw[zR,aR (by simp[A])]at this;have this:O _=O _:=this;grind
 .intro i o y;simp[y];have:=u i o y;rw[zR]at this;by_cases A:cn aag.toList (st i).1 o=V
  .rw[aY A]at this⊢;cases F:bR P ng aae _ _ o.op;.rw[F]at this;cases this
   rename_i r;rw[F]at this;have this:O _=O _:=this;grind
  rw[aR A]at this⊢;have this:O _=O _:=this;grind
def dN(aag:dV)(wt:kl)(i:Nat):Nat:=match aag[i]?with|O o=>if wt i then min 3 (dK o.op)else 4|X=>4
section
variable(aag:dV)(Tt:uC)(Ht:sw)(vt:lB)(wt:kl)
def oY:R->bG
 |0=>[]
 |k+1=>if dN aag wt k=2\/dN aag wt k=3 then k::oY k else oY k
def kD:R->vM
 |0=>[]
 |k+1=>if dN aag wt k=3 then(k,(Ht (k+1)).ah)::kD k else kD k
def qz:R->HM
 |0=>[]
 |k+1=>if dN aag wt k=1 then(k,Tt k,(aag.getD k default).op,vt k)::qz k else qz k
end
def ao2(aae:bg)(aag:dM)(bef:oh)(o:Oper)(l:dM)(i:R)(S:jf)(T:aM)(H:aj):
 kx P ng aae n aag bef (o::l) i S T H=if cn aag T o then(match bR P ng aae T H o.op with
  |some r=>(match jt (bef i) i T o.op S r with|some u=>kx P ng aae n aag bef l (i+1) u (dZ n T o.dst r.1) r.2|none=>X)
  |none=>X)else kx P ng aae n aag bef l (i+1) S (dZ n T o.dst (.tuple [])) H:=by
 show vi (motive:=λ _=>gw _) _ _ _=_;cases cn aag T o;.rfl
 .cases bR P ng aae T H _;.rfl
  rename_i r;simp;cases jt _ i T _ S r<;>rfl
theorem Iv{aag:dM}:∀{l:dM} {i:R} {S y:jf} {T T':aM} {H H':aj},kx P ng aae n aag bef l i S T H=O (y,T',H')->gv P ng aae n aag l T H=O (T',H')
 |[],i,S,y,T,T',H,H',h=>by cases h;rfl
 |o::l,i,S,y,T,T',H,H',h=>by
  rw[ao2]at h;rw[zR];split at h
  .rename_i u;rw[aY u];cases A:bR P ng aae T H _;.rw[A]at h;cases h
   rename_i r;rw[A]at h;simp at h⊢;cases D:jt _ i T _ S r;.rw[D]at h;cases h
   rename_i F;rw[D]at h;exact Iv h
  rename_i u;rw[aR u];exact Iv h
theorem Zh:∀{l:bG},qw m l=true->∀a∈l,tb m a=true
 |[],_,a,u=>by cases u
 |b::l,h,a,u=>by
  have h:vi W _ _=true:=h;cases y:tb m b;.rw[y]at h;cases h
  rw[y]at h;rcases cg.1 u with rfl|u
  .exact y
  exact Zh h a u
theorem OM{aag:dV}{Tt:uC}{Ht:sw}{vt:lB}{wt:kl}(tx:qo P ng aae n aag Tt Ht vt wt):
 ∀{l:dM} {i:R} {N:jf} {T':aM} {H':aj},aag.toList.drop i=l->i<=aag.size->
  kx P ng aae n aag.toList bef l i ⟨oY aag wt i,kD aag Ht wt i,qz aag Tt vt wt i⟩ (Tt i) (Ht i)=O (N,T',H')->
  N=⟨oY aag wt aag.size,kD aag Ht wt aag.size,qz aag Tt vt wt aag.size⟩/\∀k,i<=k->k<aag.size->dN aag wt k=3->∀a∈oY aag wt k,tb (bef k) a=V
 |[],i,N,T',H',Y,hi,h=>by
  have hN:i=aag.size:=by grind[List.drop_eq_nil_iff]
  cases h;grind
 |o::l,i,N,T',H',Y,hi,h=>by
  have y:aag[i]? =O o:=by
   have:(aag.toList.drop i)[0]? =O o:=by rw[Y];rfl
   grind
  have D:i<aag.size:=by grind
  have F:aag.toList.drop (i+1)=l:=by rw[<-sJ,Y];rfl
  have u:=tx.tmp i o y;rw[ao2,<-tx.want i o y]at h;have J:dN aag wt i=if wt i then min 3 (dK o.op)else 4:=by simp[dN,y]
  have Z:(aag.getD i default).op=o.op:=by simp[y]
  cases M:wt i;.rw[M]at h J;obtain⟨h1,h2⟩:=tx.no i o y M;rw[<-h1,<-u,<-h2,<-(show oY aag wt (i+1)=oY aag wt i by simp[oY,J]),<-(show kD aag Ht wt (i+1)=kD aag Ht wt i by simp[kD,J]),<-(show qz aag Tt vt wt (i+1)=qz aag Tt vt wt i by simp[qz,J])]at h;obtain⟨g1,g2⟩:=OM tx F D h;grind
  rw[M]at h J;rw[tx.yes i o y M]at h;simp at h;rw[<-u]at h
  have S:∀K,jt (bef i) i (Tt i) o.op ⟨oY aag wt i,kD aag Ht wt i,qz aag Tt vt wt i⟩ (vt i,Ht (i+1))=O K->
   K=⟨oY aag wt (i+1),kD aag Ht wt (i+1),qz aag Tt vt wt (i+1)⟩/\(dN aag wt i=3->∀a∈oY aag wt i,tb (bef i) a=V):=by
   intro K A;unfold jt at A;split at A;.grind[oY,kD,qz]
   .grind[oY,kD,qz,wX]
   .grind[oY,kD,qz,Bn]
   .grind[oY,kD,qz,D2,Zh]
  cases A:jt (bef i) i (Tt i) o.op _ _;.rw[A]at h;cases h
  rename_i K;rw[A]at h;obtain⟨rfl,hp⟩:=S K A;obtain⟨g1,g2⟩:=OM tx F D h;grind
end
section
variable{b:R->gw β}
variable{P:aA}{ng n Bqq:R}{ρ:dO}
mutual
theorem afT:∀(a b:au),gQ a b=V->a=b
 |.bool a,.bool b,h=>by simp[gQ]at h;rw[h]
 |.int j a,.int k b,h=>by grind[gQ]
 |.str a,.str b,h=>by simp[gQ]at h;rw[h]
 |.fq,.fq,_=>rfl
 |.ptr v o,.ptr v' o',h=>by grind[gQ,beq_true]
 |.aq,.aq,_=>rfl
 |.slice v o k l,.slice v' o' k' l',h=>by grind[gQ,beq_true]
 |.eY,.eY,_=>rfl
 |.nilFunc,.nilFunc,_=>rfl
 |.iface,.iface,_=>rfl
 |.func f a b,.func f' a' b',h=>by simp only[gQ,bq]at h;rw[beq_true h.1.1,LF a a' h.1.2,LF b b' h.2]
 |.agg a,.agg b,h=>by simp only[gQ]at h;rw[LF a b h]
 |.tuple a,.tuple b,h=>by simp only[gQ]at h;rw[LF a b h]
 |.bool _,.int _ _,h|.bool _,.str _,h|.bool _,.fq,h|.bool _,.ptr _ _,h|.bool _,.aq,h|.bool _,.slice _ _ _ _,h|.bool _,.eY,h|.bool _,.nilFunc,h|.bool _,.func _ _ _,h|.bool _,.agg _,h|.bool _,.tuple _,h=>by simp[gQ]at h
 |.int _ _,.bool _,h|.int _ _,.str _,h|.int _ _,.fq,h|.int _ _,.ptr _ _,h|.int _ _,.aq,h|.int _ _,.slice _ _ _ _,h|.int _ _,.eY,h|.int _ _,.nilFunc,h|.int _ _,.func _ _ _,h|.int _ _,.agg _,h|.int _ _,.tuple _,h=>by simp[gQ]at h
 |.str _,.bool _,h|.str _,.int _ _,h|.str _,.fq,h|.str _,.ptr _ _,h|.str _,.aq,h|.str _,.slice _ _ _ _,h|.str _,.eY,h|.str _,.nilFunc,h|.str _,.func _ _ _,h|.str _,.agg _,h|.str _,.tuple _,h=>by simp[gQ]at h
 |.fq,.bool _,h|.fq,.int _ _,h|.fq,.str _,h|.fq,.ptr _ _,h|.fq,.aq,h|.fq,.slice _ _ _ _,h|.fq,.eY,h|.fq,.nilFunc,h|.fq,.func _ _ _,h|.fq,.agg _,h|.fq,.tuple _,h=>by simp[gQ]at h
 |.ptr _ _,.bool _,h|.ptr _ _,.int _ _,h|.ptr _ _,.str _,h|.ptr _ _,.fq,h|.ptr _ _,.aq,h|.ptr _ _,.slice _ _ _ _,h|.ptr _ _,.eY,h|.ptr _ _,.nilFunc,h|.ptr _ _,.func _ _ _,h|.ptr _ _,.agg _,h|.ptr _ _,.tuple _,h=>by simp[gQ]at h
 |.aq,.bool _,h|.aq,.int _ _,h|.aq,.str _,h|.aq,.fq,h|.aq,.ptr _ _,h|.aq,.slice _ _ _ _,h|.aq,.eY,h|.aq,.nilFunc,h|.aq,.func _ _ _,h|.aq,.agg _,h|.aq,.tuple _,h=>by simp[gQ]at h
 |.slice _ _ _ _,.bool _,h|.slice _ _ _ _,.int _ _,h|.slice _ _ _ _,.str _,h|.slice _ _ _ _,.fq,h|.slice _ _ _ _,.ptr _ _,h|.slice _ _ _ _,.aq,h|.slice _ _ _ _,.eY,h|.slice _ _ _ _,.nilFunc,h|.slice _ _ _ _,.func _ _ _,h|.slice _ _ _ _,.agg _,h|.slice _ _ _ _,.tuple _,h=>by simp[gQ]at h
 |.eY,.bool _,h|.eY,.int _ _,h|.eY,.str _,h|.eY,.fq,h|.eY,.ptr _ _,h|.eY,.aq,h|.eY,.slice _ _ _ _,h|.eY,.nilFunc,h|.eY,.func _ _ _,h|.eY,.agg _,h|.eY,.tuple _,h=>by simp[gQ]at h
 |.nilFunc,.bool _,h|.nilFunc,.int _ _,h|.nilFunc,.str _,h|.nilFunc,.fq,h|.nilFunc,.ptr _ _,h|.nilFunc,.aq,h|.nilFunc,.slice _ _ _ _,h|.nilFunc,.eY,h|.nilFunc,.func _ _ _,h|.nilFunc,.agg _,h|.nilFunc,.tuple _,h=>by simp[gQ]at h
 |.func _ _ _,.bool _,h|.func _ _ _,.int _ _,h|.func _ _ _,.str _,h|.func _ _ _,.fq,h|.func _ _ _,.ptr _ _,h|.func _ _ _,.aq,h|.func _ _ _,.slice _ _ _ _,h|.func _ _ _,.eY,h|.func _ _ _,.nilFunc,h|.func _ _ _,.agg _,h|.func _ _ _,.tuple _,h=>by simp[gQ]at h
 |.agg _,.bool _,h|.agg _,.int _ _,h|.agg _,.str _,h|.agg _,.fq,h|.agg _,.ptr _ _,h|.agg _,.aq,h|.agg _,.slice _ _ _ _,h|.agg _,.eY,h|.agg _,.nilFunc,h|.agg _,.func _ _ _,h|.agg _,.tuple _,h=>by simp[gQ]at h
 |.tuple _,.bool _,h|.tuple _,.int _ _,h|.tuple _,.str _,h|.tuple _,.fq,h|.tuple _,.ptr _ _,h|.tuple _,.aq,h|.tuple _,.slice _ _ _ _,h|.tuple _,.eY,h|.tuple _,.nilFunc,h|.tuple _,.func _ _ _,h|.tuple _,.agg _,h=>by simp[gQ]at h
 |.iface,.bool _,h|.iface,.int _ _,h|.iface,.str _,h|.iface,.fq,h|.iface,.ptr _ _,h|.iface,.aq,h|.iface,.slice _ _ _ _,h|.iface,.eY,h|.iface,.nilFunc,h|.iface,.func _ _ _,h|.iface,.agg _,h|.iface,.tuple _,h|.bool _,.iface,h|.int _ _,.iface,h|.str _,.iface,h|.fq,.iface,h|.ptr _ _,.iface,h|.aq,.iface,h|.slice _ _ _ _,.iface,h|.eY,.iface,h|.nilFunc,.iface,h|.func _ _ _,.iface,h|.agg _,.iface,h|.tuple _,.iface,h=>by simp[gQ]at h
theorem LF:∀(a b:B au),wc a b=V->a=b
 |[],[],_=>rfl
 |x::xs,y::ys,h=>by simp only[wc,bq]at h;rw[afT x y h.1,LF xs ys h.2]
 |[],_::_,h|_::_,[],h=>by simp[wc]at h
end
theorem QQ{T:aM}{o:Op}{v:au}(h:mX P ng T g o v=V):dY P ng T g o=O v:=by grind[mX,afT]
section reads
variable{aag:dV}{Ht:sw}{wt:kl}{bef:oh}{j:R}{T:aM}{o:Op}{v:au}
def ao5(P:aA)(ng:R)(Ht:sw)(bef:oh)(j:R)(T:aM)(o:Op)(v:au)(p:R)(up:bA):Prop:=(∃e,up=O e/\tb (bef j) e=V)\/(∃q,p=q+1/\tb (bef q) j=V)\/dY P ng T (Ht p).ah.get o=O v
def abJ(aag:dV)(wt:kl)(p k:R)(up u:bA):Prop:=((∀q,p<=q->q<k->dN aag wt q≠3)/\u=up)\/∃q,p<=q/\q<k/\dN aag wt q=3/\(∀r,p<=r->r<q->dN aag wt r≠3)/\u=O q
def azt(objs0:kH)(up:bA):uE P ng bef objs0 j T o v [] up=((match up with|O e=>tb (bef j) e|X=>W)||mX P ng T objs0.get o v):=rfl
def awS(objs0:kH)(e:R×kH)(es:vM)(up:bA):uE P ng bef objs0 j T o v (e::es) up=(((match up with|O u=>tb (bef j) u|X=>W)||tb (bef e.1) j||mX P ng T e.2.get o v)&&uE P ng bef objs0 j T o v es (O e.1)):=rfl
theorem ahu{up:bA}(h:(match up with|O e=>tb (bef j) e|X=>W)=true):∃e,up=O e/\tb (bef j) e=true:=by grind
theorem MD:∀(k:R) (up:bA),uE P ng bef (Ht 0).ah j T o v (kD aag Ht wt k) up=V->∀p,p<=k->(p=0\/∃q,p=q+1/\dN aag wt q=3)->∀u,abJ aag wt p k up u->ao5 P ng Ht bef j T o v p u
 |0,up,h,p,M,_,u,D=>by
  obtain rfl:p=0:=aa
  have y:u=up:=by
   rcases D with⟨_,h⟩|⟨q⟩
   .exact h
   omega
  subst y;rw[show kD aag Ht wt 0=[]from Q,azt,rP]at h;rcases h with h|h
  .exact .inl (ahu h)
  exact .inr (.inr (QQ h))
 |k+1,up,h,p,M,A,u,D=>by
  by_cases S:dN aag wt k=3
  .rw[(show kD aag Ht wt _=(k,(Ht (k+1)).ah)::kD aag Ht wt k by simp[kD,S]),awS,bq,rP,rP]at h;rcases uJ M with rfl|N
   .have y:u=up:=by
     rcases D with⟨_,h⟩|⟨q⟩
     .exact h
     omega
    subst y;rcases h.1 with(h|h)|h
    .exact .inl (ahu h)
    .exact .inr (.inl ⟨k,Q,h⟩)
    exact .inr (.inr (QQ h))
   refine MD k _ h.2 p aa A u ?_;rcases D with⟨h1⟩|⟨q,h1,h2,J,F,h5⟩
   .grind
   rcases uJ (Cy h2)with rfl|K
   .exact .inl ⟨F,h5⟩
   exact .inr ⟨q,h1,K,J,F,h5⟩
  rw[(show kD aag Ht wt _=kD aag Ht wt k by simp[kD,S])]at h;rcases uJ M with rfl|N
  .grind
  refine MD k up h p aa A u ?_;rcases D with⟨h1,h2⟩|⟨q,h1,h2,J,F,h5⟩
  .exact .inl ⟨λ q a b=>h1 q a aa,h2⟩
  rcases uJ (Cy h2)with rfl|K
  .exact akQ J S
  exact .inr ⟨q,h1,K,J,F,h5⟩
def Uz:∀{rs:HM},wK P ng bef objs0 es rs=true->∀r∈rs,uE P ng bef objs0 r.1 r.2.1 r.2.2.1 r.2.2.2 es X=true
 |[],_,r,u=>by cases u
 |x::rs,h,r,u=>by
  have h:(uE P ng bef objs0 _ _ _ _ es X&&wK P ng bef objs0 es rs)=true:=h;rw[bq]at h;rcases cg.1 u with rfl|u
  .exact h.1
  exact Uz h.2 r u
end reads
structure aCx (m:R) (G:fE):Prop where lo:∀v r,G v=some r->m<=v/\r.aI=v/\r.ro=false
def jB{β:Type}(G b:R->gw β):R->gw β:=λ v=>match G v with|O x=>O x|X=>b v
theorem AO{G:R->gw β}{v:R}{x:β}(h:jB G b v=O x):G v=O x\/(G v=X/\b v=O x):=by grind[jB]
theorem Bl{G:R->gw β}{v:R}{x:β}(h:G v=O x):jB G b v=O x:=by simp[jB,h]
theorem F3{G:R->gw β}{v:R}(h:G v=X):jB G b v=b v:=by simp[jB,h]
theorem cW.frame{b b' G:fE}{bf ae GF:vd}{P:R}{w w':cG}
 (s:gP Bqq ng ρ (jB G b) (jB GF bf) w.heap) (hb:∀v r,b v=O r->v<m/\r.aI<m) (ah:∀v r,b' v=O r->v<P/\r.aI<P) (hG:aCx P G) (hm:m<=P)
 (ai:∀v,GF v=(G v).map λ _=>[v]) (S:ll ρ m P) (c:cW Bqq ng b m P ρ w b' ae ρ' w'):cW Bqq ng (jB G b) m P ρ w (jB G b') (jB GF ae) ρ' w':=by
 have Z:∀v,v<P->G v=none:=λ v y=>by
  cases h:G v;.rfl
  rename_i r;have:=(hG.lo v r h).1;omega
 have Y:∀v r,b v=O r->jB G b v=O r:=λ v r h=>by grind[F3]
 have ak:∀u ru lu v r l,G u=O ru->ρ u=O lu->b v=O r->ρ v=O l->lu.cU≠l.cU:=by
  intro u ru lu v r l hu D y K e;rcases s.sep u v ru r lu l bP (Bl hu) (Y v r y) D K e with⟨h1,_⟩|⟨_,_,h3,_⟩
  .rw[(hG.lo u ru hu).2.2]at h1;cases h1
  have:=(hG.lo u ru hu);have:=(hb v r y).2;omega
 have M:∀u ru,G u=O ru->ρ' u=ρ u:=λ u ru hu=>c.ext u (λ k=>bP)
 have ab:∀u ru,G u=O ru->∃l C e fz,ρ u=O l/\w.heap[l.cU]? =O (.cells C e fz)/\w'.heap[l.cU]? =O (.cells C e fz)/\Ch Bqq ρ ru l C fz:=by intro u ru hu;obtain⟨l,C,e,fz,K,N,ok⟩:=s.row u ru (Bl hu);refine⟨l,C,e,fz,K,N,?_,ok⟩;rw[c.vT _ (RG N) (λ v r lv y A F e=>ak u ru l v r lv hu K y F e.symm)];exact N
 have J:∀u ru lu v r l,G u=O ru->ρ u=O lu->b' v=O r->ρ' v=O l->lu.cU≠l.cU:=by
  intro u ru lu v r l hu D y K e;obtain⟨l1,C,e1,fz,ad,N,_⟩:=s.row u ru (Bl hu);rw[D]at ad;cases ad;have an:=RG N;cases A:r.ro
  .rcases c.tl v r l y A K with h|⟨x,rx,lx,hx,_⟩
   .omega
   grind
  have af:=c.vq v r y A;have:=(hb v r af).1;rw[c.ext v (λ k=>aa)]at K;grind
 refine⟨⟨by have:=s.base;have:=c.size;omega,c.cA.lW,λ v r y=>?_,λ u v ru rv lu lv ne hu y D F=>?_,λ v r mem y A ac=>?_⟩,c.ext,c.os,c.tape,c.output,c.size,λ k hk hn=>(c.vT k hk (λ v r l y A K=>hn v r l (Y v r y) A K)),λ v r l y A K=>?_,λ v r y A=>?_⟩
 .rcases AO y with y|⟨_,y⟩
  .obtain⟨l,C,e,fz,K,_,ag,ok⟩:=ab v r y;exact⟨l,C,e,fz,(M v r y)▸K,ag,ok.mono (c.O7 S)⟩
  exact c.cA.row v r y
 .rcases AO hu with hu|⟨_,hu⟩
  .rcases AO y with y|⟨_,y⟩
   .rw[M u ru hu]at D;rw[M v rv y]at F;exact s.sep u v ru rv lu lv ne (Bl hu) (Bl y) D F
   rw[M u ru hu]at D;exact λ e=>absurd e (J u ru lu v rv lv hu D y F)
  rcases AO y with y|⟨_,y⟩
  .rw[M v rv y]at F;exact λ e=>absurd e.symm (J v rv lv u ru lu y F hu D)
  exact c.cA.sep u v ru rv lu lv ne hu y D F
 .rcases AO y with y|⟨_,y⟩
  .have hf:=(hG.lo v r y).2.1;grind[Bl]
  rw[F3 (by rw[ai,Z _ ((ah v r y).2)];rfl)]at ac;exact c.cA.aI v r mem y A ac
 .rcases AO y with y|⟨_,y⟩
  .grind[Bl]
  rcases c.tl v r l y A K with h|⟨x,rx,lx,hx,al,am,ao⟩
  .exact .inl h
  grind
 .rcases AO y with y|⟨_,y⟩
  .exact Bl y
  exact Y v r (c.vq v r y A)
end
theorem aoQ{md:aeh}{aag:dV}(hL:∀i,i<aag.size->L i=W->∃o e,aag[i]? =O o/\e∈o.after.toList/\HA md e=V/\L e.on=W):
 ∀(l seen:bG),uR md aag l seen=V->(∀i∈seen,L i=V)->∀i,i<aag.size->L i=V
 |[],seen,h,A,i,y=>by simp[uR]at h;grind
 |k::u,seen,h,A,i,y=>by rw[uR,bq]at h;refine aoQ hL u _ h.2 (λ x hx=>?_) i y;grind
theorem abp{aag:dV}(h:N1 aag=true){A:Oper}(y:i<j)(F:aag[i]? =O A)(D:aag[j]? =O oj):tb (eA aag j) i=true\/A.apart aag oj=true:=by
 have u:j<aag.size:=by grind
 simp[N1]at h;have:=h j u i y;simp_all
section
variable(P:aA)(ng:R)(aae:bg)(n:R)(aag:dV)(Tt:uC)(Ht:sw)(vt:lB)(wt:kl)
def Kl(k:R):fV:=(aag[k]?).bind (·.dst)
def TL(L:kl):R->aM
 |0=>Tt 0
 |k+1=>if L k=V then dZ n (TL L k) (Kl aag k) (vt k)else TL L k
def gJ(s:R)(L:kl):R->R->oR
 |0=>λ _=>X
 |k+1=>if s<=k/\L k=V/\dN aag wt k=2 then iH (gJ s L k) (Ht k).ae ((Ht (k+1)).ah.get (Ht k).ae)else gJ s L k
def nL(s:R)(L:kl):R->R->gw bG
 |0=>λ _=>X
 |k+1=>if s<=k/\L k=V/\dN aag wt k=2 then iH (nL s L k) (Ht k).ae (O [(Ht k).ae])else nL s L k
end
theorem Dj(n:R)(T:aM)(d:fV)(v:au)(t:R):ai (dZ n T d v) t=if d=O t/\t<n then v else ai T t:=by
 cases d;.simp[ama]
 rename_i d;grind[Tu,Fi,Tr.jg]
def hY.congr{n:R}{tmps:kA}(h:hY ρ n T tmps)(e:∀t,ai T' t=ai T t):hY ρ n T' tmps:=⟨h.size,λ i=>by rw[e];exact h.get i⟩
section
variable{P:aA}{ng n Bqq:R}{aae:bg}{aag:dV}{Tt:uC}{Ht:sw}{vt:lB}{wt:kl}
theorem Va(tx:qo P ng aae n aag Tt Ht vt wt)(A:aag[i]? =O o):
 (dN aag wt i=0/\wt i=V/\nU P ng (Tt i) o.op=O (vt i)/\Ht (i+1)=Ht i)\/
 (dN aag wt i=1/\wt i=V/\dY P ng (Tt i) (Ht i).ah.get o.op=O (vt i)/\Ht (i+1)=Ht i)\/
 (dN aag wt i=2/\wt i=V/\∃cs sz m,wM P ng (Tt i) o.op=O (cs,sz,m)/\vt i=yu (Ht i).ae m/\Ht (i+1)=Abs.alloc (Ht i) cs V sz)\/
 (dN aag wt i=3/\wt i=V/\uV P ng aae (Tt i) (Ht i) o.op=O (vt i,Ht (i+1)))\/
 (dN aag wt i=4/\wt i=W/\vt i=.tuple []/\Ht (i+1)=Ht i):=by
 cases y:wt i;.obtain⟨h1⟩:=tx.no i o A y;grind[dN]
 .have u:=tx.yes i o A y;have D:dN aag wt i=min 3 (dK o.op):=by simp[dN,A,y]
  unfold bR at u;split at u;.unfold iG at u;grind
  .unfold iG at u;grind
  .unfold sy at u;grind
  grind
end
section
variable{p q:R}
variable{P:aA}{ng n Bqq:R}{aae:bg}{aag:dV}{Tt:uC}{Ht:sw}{vt:lB}{wt:kl}
def aeZ(u:ib aae)(tx:qo P ng aae n aag Tt Ht vt wt):∀i,i<aag.size->iM (Ht i) (Ht (i+1)):=by
 intro i D;have A:=AY D;cases y:wt i;.rw[(tx.no i _ A y).2];exact iM.refl _
 exact WJ u (tx.yes i _ A y)
theorem sW(u:ib aae)(tx:qo P ng aae n aag Tt Ht vt wt):∀(j i:R),i<=j->j<=aag.size->iM (Ht i) (Ht j):=by
 intro j;induction j with
 |zero=>grind[iM.refl]
 |succ j y=>
  intro i h A;rcases uJ h with rfl|h
  .exact iM.refl _
  exact(y i aa aa).trans (aeZ u tx j aa)
theorem DH(h:dN aag wt i≠4):i<aag.size:=by grind[dN]
theorem DZ(tx:qo P ng aae n aag Tt Ht vt wt)(u:dN aag wt i=2):
 ∃cs sz,Ht (i+1)=Abs.alloc (Ht i) cs V sz/\(Ht (i+1)).ah.get (Ht i).ae=O ⟨cs,(Ht i).ae,0,V,W,sz⟩/\(Ht (i+1)).ae=(Ht i).ae+1:=by
 rcases Va tx (AY (DH (by rw[u];decide)))with h|h|h|h|h
 .rw[h.1]at u;cases u
 .rw[h.1]at u;cases u
 .obtain⟨_,_,cs,sz,m,_,_,y⟩:=h;refine⟨cs,sz,y,y▸Tr.tA _ _ _,?_⟩;rw[y];rfl
 .rw[h.1]at u;cases u
 .rw[h.1]at u;cases u
def aGL(tx:qo P ng aae n aag Tt Ht vt wt)(u:i<aag.size)(h2:dN aag wt i≠2)(y:dN aag wt i≠3):Ht (i+1)=Ht i:=by
 rcases Va tx (AY u)with h|h|h|h|h
 .exact h.2.2.2
 .exact h.2.2.2
 .exact akQ h.1 h2
 .exact akQ h.1 y
 exact h.2.2.2
theorem Ho(tx:qo P ng aae n aag Tt Ht vt wt):∀(k v:R) (r:Row),gJ aag Ht wt s L k v=O r->∃i,s<=i/\i<k/\L i=V/\dN aag wt i=2/\v=(Ht i).ae/\r.aI=v/\r.ro=W
 |0,v,r,h=>by cases h
 |k+1,v,r,h=>by
  rw[gJ]at h;split at h
  .by_cases e:(Ht k).ae=v;.grind[iW,DZ]
   rw[gO _ e]at h;obtain⟨i,a,b,c⟩:=Ho tx k v r h;exact⟨i,a,aa,c⟩
  obtain⟨i,a,b,c⟩:=Ho tx k v r h;exact⟨i,a,aa,c⟩
theorem Kr(tx:qo P ng aae n aag Tt Ht vt wt):∀(k v:R),nL aag Ht wt s L k v=(gJ aag Ht wt s L k v).map λ _=>[v]
 |0,v=>rfl
 |k+1,v=>by
  rw[gJ,nL];split
  .by_cases e:(Ht k).ae=v;.grind[DZ,iW]
   rw[gO _ e,gO _ e];exact Kr tx k v
  exact Kr tx k v
def mb(L:kl)(i:R):R->Bool:=λ k=>if k=i then V else L k
theorem ahD(y:ib aae)(tx:qo P ng aae n aag Tt Ht vt wt)(A:s<=i)(u:dN aag wt i=2)(F:L i=W):∀k,k<=aag.size->
 gJ aag Ht wt s (mb L i) k=(if i<k then iH (gJ aag Ht wt s L k) (Ht i).ae ((Ht (i+1)).ah.get (Ht i).ae)else gJ aag Ht wt s L k)
 |0,_=>by simp[gJ]
 |k+1,N=>by
  have J:=ahD y tx A u F k aa;unfold gJ;rcases Nat.lt_trichotomy k i with M|rfl|D
  .grind[mb]
  .grind[mb]
  rw[(show mb L i k=L k by simp[mb,Nat.ne_of_gt D]),J,aY (aa:i<k+1)];split
  .have K:(Ht i).ae≠(Ht k).ae:=by obtain⟨_⟩:=DZ tx u;have:=(sW y tx k (i+1) aa aa).1;omega
   grind[iW,gO]
  rfl
theorem adJ(tx:qo P ng aae n aag Tt Ht vt wt)(K:p<=q)(S:q<=aag.size)(Z:∀i,p<=i->i<q->dN aag wt i=2->L i=V)(hE:∀i,p<=i->i<q->dN aag wt i≠3):
 ∀k,p<=k->k<=q->jB (gJ aag Ht wt p L k) (Ht p).ah.get=(Ht k).ah.get/\jB (nL aag Ht wt p L k) (Ht p).aV.get=(Ht k).aV.get:=by
 intro k y;induction k with
 |zero=>
  intro _;obtain rfl:p=0:=aa;exact⟨Q,Q⟩
 |succ k F=>
  intro Y;rcases uJ y with rfl|M
  ·
   have e:∀m,m<=k+1->gJ aag Ht wt (k+1) L m=(λ _=>X)/\nL aag Ht wt (k+1) L m=(λ _=>X):=by
    intro m;induction m with
    |zero=>exact λ _=>⟨Q,Q⟩
    |succ m D=>grind[gJ,nL]
   rw[(e _ (aZ _)).1,(e _ (aZ _)).2];exact⟨Q,Q⟩
  obtain⟨h1,h2⟩:=F aa aa;rw[gJ,nL];by_cases u:dN aag wt k=2
  .obtain⟨cs,sz,A,J,_⟩:=DZ tx u;have g:(Ht (k+1)).ah.get=iH (Ht k).ah.get (Ht k).ae ((Ht (k+1)).ah.get (Ht k).ae):=by rw[J,A];exact yF _ _ _
   have N:(Ht (k+1)).aV.get=iH (Ht k).aV.get (Ht k).ae (O [(Ht k).ae]):=A▸yF _ _ _;rw[g,N,<-h1,<-h2];grind[jB,iW,gO]
  rw[aR (λ h=>u h.2.2),aR (λ h=>u h.2.2),aGL tx aa u (hE k aa aa)];exact⟨h1,h2⟩
theorem aJI(tx:qo P ng aae n aag Tt Ht vt wt)(D:p<=q):∀k,q<=k->k<=aag.size->
 gJ aag Ht wt p L k=jB (gJ aag Ht wt q L k) (gJ aag Ht wt p L q)/\nL aag Ht wt p L k=jB (nL aag Ht wt q L k) (nL aag Ht wt p L q):=by
 intro k u;induction k with
 |zero=>
  intro _;obtain rfl:q=0:=aa;exact⟨Q,Q⟩
 |succ k A=>
  intro J;rcases uJ u with rfl|F
  .have e:∀m,m<=k+1->gJ aag Ht wt (k+1) L m=(λ _=>X)/\nL aag Ht wt (k+1) L m=(λ _=>X):=by
    intro m;induction m with
    |zero=>exact λ _=>⟨Q,Q⟩
    |succ m y=>grind[gJ,nL]
   rw[(e _ (aZ _)).1,(e _ (aZ _)).2];exact⟨Q,Q⟩
  obtain⟨h1,h2⟩:=A aa aa;simp[gJ,nL];by_cases K:L k=V/\dN aag wt k=2;.rw[h1,h2];grind[DZ,jB,iW,gO]
  grind
theorem aef(a b c:R->gw β):jB (jB a b) c=jB a (jB b c):=by grind[jB]
end
structure BT (P:aA) (ng:R) (aae:bg) (n:R) (aag:dV) (Tt:uC) (Ht:sw) (vt:lB) (wt:kl):Prop where
 tx:qo P ng aae n aag Tt Ht vt wt
 ok:jV P ng aae
 grow:ib aae
 wf:WF (Ht 0)
 apart:N1 aag=true
 chain:∀k,dN aag wt k=3->∀i,i<k->(dN aag wt i=2\/dN aag wt i=3)->tb (eA aag k) i=true
 reads:∀j o,aag[j]? =some o->dN aag wt j=1->∀p,p<=aag.size->(p=0\/∃q,p=q+1/\dN aag wt q=3)->∀up,abJ aag wt p aag.size none up->ao5 P ng Ht (eA aag) j (Tt j) o.op (vt j) p up\/dY P ng (Tt j) (jB (gJ aag Ht wt p (λ k=>tb (eA aag j) k) aag.size) (Ht p).ah.get) o.op=some (vt j)
def IV(ng n Bqq:R)(aag:dV)(Tt:uC)(Ht:sw)(vt:lB)(wt:kl)(ρ0:dO)(w0:cG)(L:kl)(a:Act)(w:cG):Prop:=
 ∃ρ p,a.defers=[]/\hY ρ n (TL n aag Tt vt L aag.size) a.tmps/\p<=aag.size/\(p=0\/∃q,p=q+1/\dN aag wt q=3)/\(∀q,dN aag wt q=3->(L q=V↔q<p))/\
  (∀i,i<aag.size->L i=W->ll ρ (Ht i).ae (Ht (i+1)).ae)/\
  cW Bqq ng (Ht 0).ah.get (Ht 0).ae (Ht aag.size).ae ρ0 w0 (jB (gJ aag Ht wt p L aag.size) (Ht p).ah.get) (jB (nL aag Ht wt p L aag.size) (Ht p).aV.get) ρ w
section
variable{P:aA}{ng n Bqq:R}{aae:bg}{aag:dV}{Tt:uC}{Ht:sw}{vt:lB}{wt:kl}
theorem aIP(d:BT P ng aae n aag Tt Ht vt wt)(S:∀i j,(L i=true)->tb (eA aag i) j=true->L j=true)(M:aag[i]? =O o)(J:L i=W)
 (A:∀j,tb (eA aag i) j=true->L j=true) {t:R} (Y:t∈o.looksAt aag):ai (TL n aag Tt vt L aag.size) t=ai (Tt i) t:=by
 have Z:i<aag.size:=by grind
 have h1:∀k,k<=i->ai (TL n aag Tt vt L k) t=ai (Tt k) t:=by
  intro k;induction k with
  |zero=>intro _;rfl
  |succ k K=>
   intro N;have u:aag[k]? =O _:=AY aa;rw[d.tx.tmp k _ u,Dj,TL,Kl,u];by_cases hd:(aag[k]'aa).dst=O t
   .have hL:L k=true:=by
     rcases abp d.apart aa u M with h|h
     .exact A k h
     grind[alU]
    grind[Dj]
   grind[Dj]
 have h2:∀k,i<=k->k<=aag.size->ai (TL n aag Tt vt L k) t=ai (Tt i) t:=by
  intro k F;induction k with
  |zero=>grind
  |succ k K=>
   intro N;rcases uJ F with rfl|D
   .grind
   have u:aag[k]? =O _:=AY aa;rw[TL,Kl,u];split
   .rename_i hL;rw[Dj,aR];.exact K aa aa
    rcases uJ (Cy D)with rfl|y
    .rw[J]at hL;cases hL
    rcases abp d.apart y M u with h|h
    .grind
    grind[alU]
   grind
 grind
theorem auy(d:BT P ng aae n aag Tt Ht vt wt)(K:∀i j,(L i=V)->tb (eA aag i) j=V->L j=V)(J:aag[i]? =O o)(M:L i=W):
 ∀t,ai (TL n aag Tt vt (mb L i) aag.size) t=ai (dZ n (TL n aag Tt vt L aag.size) o.dst (vt i)) t:=by
 intro t
 have h1:∀k,k<=i->TL n aag Tt vt (mb L i) k=TL n aag Tt vt L k:=by
  intro k;induction k with
  |zero=>intro _;rfl
  |succ k A=>grind[mb,TL]
 have h2:∀k,i<k->k<=aag.size->ai (TL n aag Tt vt (mb L i) k) t=ai (dZ n (TL n aag Tt vt L k) o.dst (vt i)) t:=by
  intro k D;induction k with
  |zero=>omega
  |succ k A=>
   intro N;rcases uJ (Cy D)with rfl|u
   .grind[mb,TL,Kl]
   have y:aag[k]? =O _:=AY aa;simp[TL,(show mb L i k=L k by simp[mb];omega),Kl,y,Option.bind_some];split
   .rw[Dj,Dj,Dj,A u aa,Dj];by_cases F:(aag[k]'aa).dst=O t/\t<n
    .rcases abp d.apart u J y with h|h
     .grind
     grind[alU]
    rw[aR F,aR F]
   exact A u aa
 grind
def aHt(h:∀t,t∈o.looksAt aag->ai T t=ai T' t):D1 ng T T' o.op.operands.toList:=by
 intro x hx;cases x with
 |tmp t=>
  show O _=O _;rw[h t (UH _ (List.mem_filterMap.2 ⟨.tmp t,hx,Q⟩))]
 |_=>rfl
theorem av8(h:∀t,t∈o.looksAt aag->ai T t=ai T' t):cn aag.toList T o=cn aag.toList T' o:=by
 unfold cn;cases u:o.guard;.rfl
 rename_i y;grind[Oper.looksAt]
end
section
variable{P:aA}{ng n Bqq:R}{aae:bg}{aag:dV}{Tt:uC}{Ht:sw}{vt:lB}{wt:kl}
theorem U9{s':R}{L':kl}(h:∀k,dN aag wt k=2->((s<=k/\L k=V)↔(s'<=k/\L' k=V))):∀k,gJ aag Ht wt s L k=gJ aag Ht wt s' L' k/\nL aag Ht wt s L k=nL aag Ht wt s' L' k
 |0=>⟨Q,Q⟩
 |k+1=>by obtain⟨h1⟩:=U9 h k;grind[gJ,nL]
def aiq(u:ib aae)(tx:qo P ng aae n aag Tt Ht vt wt)(A:s<=aag.size)(y:v<(Ht s).ae):gJ aag Ht wt s L aag.size v=none:=by
 cases h:gJ aag Ht wt s L _ v;.rfl
 rename_i r;obtain⟨i,h1,h2⟩:=Ho tx _ v r h;have:=(sW u tx i s h1 aa).1;omega
theorem anQ(G b:R->gw β)(i:R)(x:β):jB (iH G i (O x)) b=iH (jB G b) i (O x):=by grind[jB,iW,gO]
theorem avu(p N:R):∃up,abJ aag wt p N X up:=by
 by_cases h:∃q,p<=q/\q<N/\dN aag wt q=3
 .have u:∀m,(∀q,p<=q->q<m->dN aag wt q≠3)\/∃q,p<=q/\q<m/\dN aag wt q=3/\∀r,p<=r->r<q->dN aag wt r≠3:=by
   intro m;induction m with
   |zero=>left;omega
   |succ m y=>grind
  rcases u N with A|⟨q,a,b,c,d⟩
  .grind
  exact⟨O q,.inr ⟨q,a,b,c,d,Q⟩⟩
 exact⟨X,.inl ⟨λ q a b c=>h ⟨q,a,b,c⟩,Q⟩⟩
def VQ(u:ib aae)(tx:qo P ng aae n aag Tt Ht vt wt)(y:∀k,M k=V->L k=V){r:Row}:∀(k:R),k<=aag.size->gJ aag Ht wt s M k v=O r->gJ aag Ht wt s L k v=O r
 |0,_,h=>by cases h
 |k+1,K,h=>by
  rw[gJ]at h⊢;by_cases A:s<=k/\M k=V/\dN aag wt k=2
  .rw[aY A]at h;rw[aY ⟨A.1,y k A.2.1,A.2.2⟩];by_cases e:(Ht k).ae=v;.subst e;rw[iW]at h⊢;exact h
   rw[gO _ e]at h⊢;exact VQ u tx y k aa h
  rw[aR A]at h;have D:=VQ u tx y k aa h;split
  .obtain⟨i,h1,h2,N,F,h5⟩:=Ho tx _ v r h;have J:(Ht (i+1)).ae=(Ht i).ae+1:=by obtain⟨_,_,_,_,h⟩:=DZ tx F;exact h
   have:=(sW u tx k (i+1) aa aa).1;rw[gO _ aa];exact D
  exact D
theorem auf(d:BT P ng aae n aag Tt Ht vt wt){ρ0:dO}{L:kl}{a:Act}{w:cG}{Qqq:rm}
 (ak:∀i j,(L i=V)->tb (eA aag i) j=V->L j=V) (ho:aag[i]? =O o) (D:L i=false) (S:∀j,tb (eA aag i) j=V->L j=V)
 (inv:IV ng n Bqq aag Tt Ht vt wt ρ0 w0 L a w):wpOp P aag Qqq i (IV ng n Bqq aag Tt Ht vt wt ρ0 w0 (mb L i)) a w:=by
 obtain⟨ρ,p,ac,hT,hp,ad,av,A,u⟩:=inv;have hi:i<aag.size:=by grind
 have N:∀t,t∈o.looksAt aag->ai (TL n aag Tt vt L aag.size) t=ai (Tt i) t:=λ t ht=>aIP d ak ho D S ht
 have af:=aHt (ng:=ng) N;have M:=auy d ak ho D;have hN:∀k,k<=aag.size->iM (Ht 0) (Ht k):=λ k K=>sW d.grow d.tx k 0 aa K
 have F:∀k,k<=aag.size->WF (Ht k):=λ k K=>(hN k K).2 d.wf
 have al:(Ht 0).ae<=(Ht i).ae:=(hN i aa).1;have aS:(Ht i).ae<=(Ht (i+1)).ae:=(aeZ d.grow d.tx i hi).1;have aR:(Ht (i+1)).ae<=(Ht aag.size).ae:=(sW d.grow d.tx aag.size (i+1) hi (aZ _)).1;have aB:∀j,j≠i->mb L i j=L j:=λ j hj=>by simp[mb,hj]
 unfold wpOp;simp only[ho];rw[<-am1 hT o,av8 N,<-d.tx.want i o ho]
 have same:∀x,dN aag wt i≠2->dN aag wt i≠3->bW ρ (vt i) x->IV ng n Bqq aag Tt Ht vt wt ρ0 w0 (mb L i) (a.put o.dst x) w:=by
  intro x h2 h3 hx;have hg:=U9 (aag:=aag) (Ht:=Ht) (wt:=wt) (s:=p) (s':=p) (L:=mb L i) (L':=L) (λ k K=>by grind) aag.size
  refine⟨ρ,p,by rw[put_defers];exact ac,(hT.put o.dst hx).congr M,hp,ad,λ q hq=>?_,λ j hj hL=>?_,?_⟩;.grind
  .grind
  grind
 rcases Va d.tx ho with⟨K,hw,hv,_⟩|⟨K,hw,hv,_⟩|⟨K,hw,cs,sz,m,hv,am,aJ⟩|⟨K,hw,hv⟩|⟨K,hw,am,_⟩
 ·
  rw[hw,aY Q];left;rw[<-aBe af]at hv;obtain⟨x,hx,J⟩:=ahz hT u.cA.lW hv;simp only[afh,J w,aiE];grind
 ·
  rw[hw,aY Q];left;obtain⟨up,an⟩:=avu (aag:=aag) (wt:=wt) p aag.size
  have ar:dY P ng (Tt i) (jB (gJ aag Ht wt p L aag.size) (Ht p).ah.get) o.op=O (vt i):=by
   rcases d.reads i o ho K p hp ad up an with aN|ax
   .have hr:dY P ng (Tt i) (Ht p).ah.get o.op=O (vt i):=by
     rcases aN with⟨e,rfl,he⟩|⟨q,hq,he⟩|h
     .exfalso;rcases an with⟨_,h⟩|⟨q,h1,h2,h3,_,h5⟩
      .cases h
      grind
     .grind
     exact h
    exact BF (λ v r y=>by rw[F3 (aiq d.grow d.tx hp ((F p hp v r y).1))];exact y) hr
   refine BF (λ v r y=>?_) ax;rcases AO y with h|⟨_,h⟩
   .have h':=VQ d.grow d.tx (λ k aP=>S k aP) aag.size (aZ _) h;unfold jB;rw[h']
   rw[F3 (aiq d.grow d.tx hp ((F p hp v r h).1))];exact h
  rw[<-ayb af]at ar;obtain⟨x,hx,J⟩:=agX u.cA hT ar;simp only[afh,J,aiE];grind
 ·
  rw[hw,aY Q];left
  have Y:p<=i:=by
   rcases yi i p with h|h
   .exfalso;rcases ad with h0|⟨q,hq,au⟩
    .omega
    have a1:i≠q:=λ e=>bP
    have:=ak q i ((av q au).2 aa) (d.chain q au i aa (.inl K));rw[D]at this;cases this
   exact h
  rw[<-aqZ af]at hv;obtain⟨C,e,aq,J⟩:=aiv hT u.cA.lW hv;have aO:(Ht (i+1)).ae=(Ht i).ae+1:=by rw[aJ];rfl
  have aQ:ρ (Ht i).ae=none:=A i hi D _ (aZ _) aa;have aW:C.size=cs.length:=by have:=pY aq;simpa using this
  have aU:∀v r,jB (gJ aag Ht wt p L aag.size) (Ht p).ah.get v=O r->v≠(Ht i).ae/\r.aI≠(Ht i).ae:=by
   intro v r y;rcases AO y with h|⟨_,h⟩
   .obtain⟨k,h1,h2,h3,h4,h5,h6,_⟩:=Ho d.tx _ v r h;have az:k≠i:=λ e=>by rw[e,D]at h3;cases h3
    have a2:(Ht (k+1)).ae=(Ht k).ae+1:=by obtain⟨_,_,_,_,h⟩:=DZ d.tx h4;exact h
    rcases apD az with ay|aC
    .have:=(sW d.grow d.tx i (k+1) aa aa).1;omega
    have:=(sW d.grow d.tx k (i+1) aa aa).1;omega
   have h1:=F p hp v r h;have:=(sW d.grow d.tx i p Y aa).1;omega
  have aH:=Xe (w':=w.alloc (.cells C e)) (e:=e) u.cA aQ aU cs V sz cs.length aW (aZ _) (λ _=>rfl) (λ j c hc=>by grind[vL]) Q Q Q Q;have ab:=aH.O7 (λ v a b=>bP)
  have y:bW (iH ρ (Ht i).ae (O ⟨w.heap.size,0,cs.length,sz⟩)) (vt i) (BU w.heap.size m (cs.length/sz)):=by
   rw[am];cases m;.exact⟨_,iW _ _ _,Q⟩
   rename_i k;exact⟨_,iW _ _ _,Q⟩
  have ap:(Ht (i+1)).ah.get (Ht i).ae=O ⟨cs,(Ht i).ae,0,V,false,sz⟩:=by rw[aJ];exact Tr.tA _ _ _
  have aD:gJ aag Ht wt p (mb L i) aag.size=iH (gJ aag Ht wt p L aag.size) (Ht i).ae (O ⟨cs,(Ht i).ae,0,V,false,sz⟩):=by rw[ahD d.grow d.tx Y K D aag.size (aZ _),aY hi,ap]
  have aT:nL aag Ht wt p (mb L i) aag.size=iH (nL aag Ht wt p L aag.size) (Ht i).ae (O [(Ht i).ae]):=by
   funext v;rw[Kr d.tx,aD];by_cases e1:(Ht i).ae=v;.grind[iW]
   rw[gO _ e1,gO _ e1,Kr d.tx]
  simp only[afh,J w,aiE];refine⟨iH ρ (Ht i).ae (O ⟨w.heap.size,0,cs.length,sz⟩),p,by rw[put_defers];exact ac,((hT.mono ab).put o.dst y).congr M,hp,ad,λ q hq=>?_,λ j hj hL=>?_,?_⟩;.grind
  .have Z:j≠i:=λ e=>by subst e;simp[mb]at hL
   rw[aB j Z]at hL;intro v h1 h2;rw[gO _ ?_];.exact A j hj hL v h1 h2
   intro e1;rcases apD Z with ay|aC
   .have:=(sW d.grow d.tx i (j+1) aa aa).1;omega
   have:=(sW d.grow d.tx j (i+1) aa aa).1;omega
  rw[aD,aT,anQ,anQ];exact u.Sv (aH.ant al aa)
 ·
  rw[hw,aY Q];left;have Y:p<=i:=by grind
  have aK:∀q,p<=q->q<i->dN aag wt q≠3:=λ q h1 h2 h3=>by have:=(av q h3).1 (S q (d.chain i K q h2 (.inr h3)));omega
  obtain⟨t1,t2⟩:=adJ d.tx Y aa (λ q h1 h2 h3=>S q (d.chain i K q h2 (.inl h3))) aK i Y (aZ _);obtain⟨s1,s2⟩:=aJI (L:=L) d.tx Y aag.size aa (aZ _);have aw:jB (gJ aag Ht wt p L aag.size) (Ht p).ah.get=jB (gJ aag Ht wt i L aag.size) (Ht i).ah.get:=by rw[s1,aef,t1]
  have aG:jB (nL aag Ht wt p L aag.size) (Ht p).aV.get=jB (nL aag Ht wt i L aag.size) (Ht i).aV.get:=by rw[s2,aef,t2]
  rw[aw,aG]at u
  have ag:∀v r,gJ aag Ht wt i L aag.size v=O r->(Ht (i+1)).ae<=v/\r.aI=v/\r.ro=false:=by
   intro v r h;obtain⟨k,h1,h2,h3,h4,h5,h6,h7⟩:=Ho d.tx _ v r h;have az:k≠i:=λ e=>by rw[e,K]at h4;cases h4
   have:=(sW d.grow d.tx k (i+1) aa aa).1;exact⟨aa,h6,h7⟩
  have Gn:∀v,v<(Ht (i+1)).ae->gJ aag Ht wt i L aag.size v=none:=λ v a0=>by
   cases h:gJ aag Ht wt i L aag.size v;.rfl
   rename_i r;have:=(ag v r h).1;omega
  have ao:gP Bqq ng ρ (Ht i).ah.get (Ht i).aV.get w.heap:=by
   refine gP.sub u.cA (λ v r y=>?_) (λ f mem hm v r y aL hf=>?_);.rw[F3 (Gn v (by have:=(F i (by omega) v r y).1;omega))];exact y
   have aX:=F i aa v r y;refine u.cA.aI v r mem (by grind[F3]) aL ?_;rw[F3 (by rw[Kr d.tx,Gn r.aI (by omega)];rfl),hf];exact hm
  rw[<-aFV af]at hv;refine ahY d.ok ao (F i aa) hT hv (A i hi D) (λ x ρ' w' hx hc=>?_);have ab:=hc.O7 (A i hi D);have aE:=cW.frame u.cA (λ v r h=>F i aa v r h) (λ v r h=>F (i+1) hi v r h) ⟨ag⟩ aS (λ v=>Kr d.tx aag.size v) (A i hi D) hc;have hg:=U9 (aag:=aag) (Ht:=Ht) (wt:=wt) (s:=i+1) (s':=i) (L:=mb L i) (L':=L) (λ k a3=>by grind) aag.size
  refine⟨ρ',i+1,by rw[put_defers];exact ac,((hT.mono ab).put o.dst hx).congr M,hi,.inr ⟨i,Q,K⟩,λ q hq=>?_,λ j hj hL=>?_,?_⟩;.grind[mb]
  .have Z:j≠i:=λ e=>by subst e;simp[mb]at hL
   rw[aB j Z]at hL;intro v h1 h2;rw[hc.ext v ?_];.exact A j hj hL v h1 h2
   rintro⟨h3,h4⟩
   rcases apD Z with ay|aC
   .have:=(sW d.grow d.tx i (j+1) aa aa).1;omega
   have:=(sW d.grow d.tx j (i+1) aa aa).1;omega
  rw[hg.1,hg.2];exact u.Sv (aE.ant al aR)
 grind[P2]
end
section
variable{P:aA}{ng n Bqq:R}{aae:bg}{aag:dV}{Qqq:rm}{md:aeh}
theorem afE(k i:R):yC k (sg k i)=i:=by grind[sg,yC]
theorem OR(k j:R):sg k (yC k j)=j:=by grind[sg,yC]
theorem z8(k:R):(qj k aag).size=aag.size:=by simp[qj]
theorem W9(u:k<aag.size)(y:i<aag.size):sg k i<aag.size:=by grind[sg]
theorem VO(u:k<aag.size)(y:i<aag.size):yC k i<aag.size:=by grind[yC]
def Lz(u:k<aag.size)(h:aag[i]? =O o):(qj k aag)[sg k i]? =O (Jt k o):=by rw[qj,List.getElem?_toArray,mu,UI (W9 u ((adT.1 h).1)),Ot,afE,qh,h];rfl
theorem Mq{u:abB mi}:i∈aba md aag u↔∃o,aag[i]? =O o/\u.getD i true=W/\∀e∈o.after.toList,HA md e=true->u.getD e.on W=true:=by unfold aba;grind[aj1]
theorem alN{l:abB mi}(h:i<l.size):l.getD i V=l.getD i false:=by grind
theorem Nv(S:k<aag.size)(hg:AG aag=true):∀{u:R} {listed listed':abB mi} {a:Act} {w:cG},listed.size=aag.size->listed'.size=aag.size->(∀i,listed'.getD (sg k i) W=listed.getD i W)->
 asb P md (qj k aag) Qqq u listed' a w->asb P md aag Qqq u listed a w:=by
 have rd:∀{listed listed':abB mi},listed.size=aag.size->listed'.size=aag.size->(∀i,listed'.getD (sg k i) W=listed.getD i W)->∀i,i∈aba md aag listed->sg k i∈aba md (qj k aag) listed':=by
  intro listed listed' h1 h2 h i J;obtain⟨o,D,h3,h4⟩:=Mq.1 J;refine Mq.2 ⟨_,Lz S D,?_,λ e K hb=>?_⟩;.grind[alN,W9]
  simp only[Jt,lO]at K;obtain⟨e',Z,rfl⟩:=K;rw[h];exact h4 e' Z hb
 have ab:∀{listed listed':abB mi},listed.size=aag.size->listed'.size=aag.size->(∀i,listed'.getD (sg k i) W=listed.getD i W)->aba md aag listed=[]->aba md (qj k aag) listed'=[]:=by
  intro listed listed' h1 h2 h K;rw[aKc];intro j hj;obtain⟨o,D,h3,h4⟩:=Mq.1 hj;have F:j<aag.size:=by grind[Array.getElem?_eq_some_iff,z8]
  have ad:=VO S F;have N:=AY ad;have Y:=Lz S N;rw[OR,D]at Y;cases Y
  have:yC k j∈aba md aag listed:=by
   refine Mq.2 ⟨_,N,?_,λ e Z hb=>?_⟩;.grind[alN,OR]
   rw[<-h];exact h4 {e with on:=sg k e.on} (by grind[Jt]) hb
  rw[K]at this;cases this
 intro u;induction u with
 |zero=>
  intro listed listed' a w h1 h2 h M;refine⟨?_,M.2⟩;rw[aKc];intro i J;have:=rd h1 h2 h i J;rw[M.1]at this;cases this
 |succ u ih=>
  intro listed listed' a w h1 h2 h M;refine⟨λ K=>M.1 (ab h1 h2 h K),λ i J=>?_⟩;have A:=M.2 _ (rd h1 h2 h i J);obtain⟨o,D,_,_⟩:=Mq.1 J;have F:i<aag.size:=(adT.1 D).1
  have ae:o.guard=none:=by
   have:=iw.1 hg o (by grind[Array.mem_of_getElem?])
   simpa using this
  have ac:∀a w,asb P md (qj k aag) Qqq u (listed'.setIfInBounds (sg k i) true) a w->asb P md aag Qqq u (listed.setIfInBounds i true) a w:=by
   intro a w hx;refine ih (by simpa using h1) (by simpa using h2) (λ j=>?_) hx;by_cases e:j=i;.subst e;rw[qh,apE (h2▸W9 S F),qh,apE aa]
   have:=h j;rw[qh,qh]at this;rw[qh,adP (λ Y=>e (by grind[yC,afE])),qh,adP (λ Y=>e Y.symm)];exact this
  unfold wpOp at A⊢;rw[Lz S D]at A;rw[D];simp only at A⊢;have w1:∀y,aeo o y=true:=λ y=>by unfold aeo;rw[ae]
  have w2:∀y,aeo (Jt k o) y=true:=λ y=>by grind[aeo,Jt,guard]
  rw[aY (w1 _)];rw[aY (w2 _)]at A;rcases A with A|A
  .exact .inl (Oper.wp_mono ac (A))
  exact .inr A
end
section
variable{a:Act}
variable{P:aA}{ng n Bqq:R}{aae:bg}{aag:dV}{Tt:uC}{Ht:sw}{vt:lB}{wt:kl}
def yW(L:kl):R->R
 |0=>0
 |k+1=>(if L k=V then 0 else 1)+yW L k
def afX:∀{k:R},yW L k=0->∀i,i<k->L i=V
 |0,_,i,y=>by omega
 |k+1,h,i,y=>by
  rw[yW]at h;rcases uJ (Cy y)with rfl|u
  .split at h;.assumption
   omega
  exact afX aa i u
theorem alz(u:L i=W):∀{k:R},yW (mb L i) k+(if i<k then 1 else 0)=yW L k
 |0=>by simp[yW]
 |k+1=>by have y:=alz u (k:=k);grind[yW,mb]
theorem avS{md:aeh}{e:Edge}(h:HA .any e=true):HA md e=true:=by grind[HA]
theorem alf(d:BT P ng aae n aag Tt Ht vt wt){ρ0:dO}{w:cG}(u:∀i,i<aag.size->L i=V)(inv:IV ng n Bqq aag Tt Ht vt wt ρ0 w0 L a w):
 ∃ρ,a.defers=[]/\hY ρ n (Tt aag.size) a.tmps/\cW Bqq ng (Ht 0).ah.get (Ht 0).ae (Ht aag.size).ae ρ0 w0 (Ht aag.size).ah.get (Ht aag.size).aV.get ρ w:=by
 obtain⟨ρ,p,F,Y,D,K⟩:=inv;have A:∀q,p<=q->q<aag.size->dN aag wt q≠3:=λ q h1 h2 Z=>by grind
 obtain⟨N⟩:=adJ d.tx D (aZ _) (λ q _ h2 _=>u q h2) A _ D (aZ _)
 have M:∀k,k<=aag.size->TL n aag Tt vt L k=Tt k:=by
  intro k;induction k with
  |zero=>intro _;rfl
  |succ k J=>
   intro S;have y:aag[k]? =O _:=AY aa;simp[TL,u k aa,J aa,Kl,y];exact(d.tx.tmp k _ y).symm
 grind
theorem avg(d:BT P ng aae n aag Tt Ht vt wt){md:aeh}{F:bG}(J:uR md aag F []=true){ρ0:dO}{Qqq:rm}
 (hQ:∀a w ρ,a.defers=[]->hY ρ n (Tt aag.size) a.tmps->cW Bqq ng (Ht 0).ah.get (Ht 0).ae (Ht aag.size).ae ρ0 w0 (Ht aag.size).ah.get (Ht aag.size).aV.get ρ w->Qqq .normal a w):
 ∀(u:R) (listed:abB mi) (a:Act) (w:cG),listed.size=aag.size->
  (∀i o e,listed.getD i false=true->aag[i]? =O o->e∈o.after.toList->HA .any e=true->listed.getD e.on false=true)->
  IV ng n Bqq aag Tt Ht vt wt ρ0 w0 (λ i=>listed.getD i false) a w->yW (λ i=>listed.getD i false) aag.size<=u->asb P md aag Qqq u listed a w:=by
 intro u;induction u with
 |zero=>
  intro listed a w hs hc inv hf;have A:=afX (Nat.le_zero.1 hf);refine⟨?_,?_⟩;.grind[aba,List.filter_eq_nil_iff]
  obtain⟨ρ,h1,h2,N⟩:=alf d A inv;exact hQ a w ρ h1 h2 N
 |succ u ih=>
  intro listed a w hs hc inv hf;have y:=λ i j h1 h2=>af1 (λ i o e a b c f=>hc i o e a b c f) i (.inl h1) j h2
  refine⟨λ hr=>?_,λ i M=>?_⟩
  .have A:=by
    refine aoQ (md:=md) (L:=λ i=>listed.getD i false) (λ i M hl=>?_) F [] J (λ i M=>bk);have af:i∉aba md aag listed:=by rw[hr];simp
    grind[aba]
   obtain⟨ρ,h1,h2,N⟩:=alf d A inv;exact hQ a w ρ h1 h2 N
  unfold aba at M;rw[He]at M;obtain⟨Y,ab⟩:=M;have S:=Ox.1 Y;have ac:listed.getD i false=false:=by grind
  have Z:∀e,e∈(aag[i]).after.toList->HA .any e=true->listed.getD e.on false=true:=by grind[aj1,avS]
  refine wpOp_mono (λ a' w' K=>?_) (auf (Qqq:=Qqq) d y (AY S) ac (af1 (λ i o e a b c f=>hc i o e a b c f) i (.inr λ o e h1 h2 N=>bP)) inv)
  have D:(λ k=>(listed.setIfInBounds i true).getD k false)=mb (λ k=>listed.getD k false) i:=by
   funext k;unfold mb;by_cases e:k=i;.subst e;rw[aY Q,qh,apE aa];rfl
   rw[aR e,qh,adP (Es e),<-qh]
  refine ih (listed.setIfInBounds i true) a' w' (by simpa using hs) ?_ (by rw[D];exact K) ?_;.intro k o e h1 h2 N h4;have ad:(λ k=>(listed.setIfInBounds i true).getD k false) k=true:=h1;show(λ k=>(listed.setIfInBounds i true).getD k false) e.on=true;rw[D]at ad⊢;grind[mb]
  grind[alz]
theorem TG(d:BT P ng aae n aag Tt Ht vt wt){H:aj}(Y:Tt 0=T)(N:Ht 0=H)(ad:Tt aag.size=T')(ac:Ht aag.size=H'){w:cG}{Qqq:rm}
 (s:jU Bqq ng ρ H w) (y:ll ρ H.ae H'.ae) (hT:hY ρ n T a.tmps) (hd:a.defers=[])
 (hQ:∀a' w' ρ',hY ρ' n T' a'.tmps->a'.defers=[]->cW Bqq ng H.ah.get H.ae H'.ae ρ w H'.ah.get H'.aV.get ρ' w'->Qqq .normal a' w'):
 ∀(md:aeh) (A:bG),uR md aag A []=true->asb P md aag Qqq aag.size (vj aag.size false) a {w with drawn:=w.drawn+1}:=by
 have tx:=d.tx;have M:=d.grow
 have D:IV ng n Bqq aag Tt Ht vt wt ρ w (λ i=>(vj aag.size false).getD i false) a {w with drawn:=w.drawn+1}:=by
  have ab:∀i,(vj aag.size false).getD i false=false:=by intro i;rw[qh,adU];split<;>rfl
  have hg:∀k,gJ aag Ht wt 0 (λ i=>(vj aag.size false).getD i false) k=(λ _=>X)/\nL aag Ht wt 0 (λ i=>(vj aag.size false).getD i false) k=(λ _=>X):=by
   intro k;induction k with
   |zero=>exact⟨Q,Q⟩
   |succ k F=>grind[gJ,nL]
  have S:∀k,TL n aag Tt vt (λ i=>(vj aag.size false).getD i false) k=Tt 0:=by
   intro k;induction k with
   |zero=>rfl
   |succ k F=>grind[TL]
  refine⟨ρ,0,hd,by rw[S,Y];exact hT,kG _,.inl Q,λ q _=>by simp[ab],λ i hi _=>?_,?_⟩;.have h1:=(sW M tx i 0 (kG _) aa).1;have h2:=(sW M tx _ _ hi (aZ _)).1;rw[N]at h1;rw[ac]at h2;exact y.sub h1 h2
  rw[(hg _).1,(hg _).2,N];exact{cW.refl s _ _ with cA:=s}
 have Z:∀a w' ρ',a.defers=[]->hY ρ' n (Tt aag.size) a.tmps->cW Bqq ng (Ht 0).ah.get (Ht 0).ae (Ht aag.size).ae ρ w (Ht aag.size).ah.get (Ht aag.size).aV.get ρ' w'->Qqq .normal a w':=by grind
 have u:yW (λ i=>(vj aag.size false).getD i false) aag.size<=aag.size:=by
  have:∀(L) k,yW L k<=k:=by
   intro L k;induction k with
   |zero=>exact aZ _
   |succ k F=>grind[yW]
  exact this _ _
 have K:∀i o e,(vj aag.size false).getD i false=true->aag[i]? =O o->e∈o.after.toList->HA .any e=true->(vj aag.size false).getD e.on false=true:=by intro i o e h1;rw[qh,adU]at h1;split at h1<;>cases h1
 exact λ md A J=>avg d J Z _ _ a _ aw K D u
end
section
variable{o:Op}
variable{P:aA}{ng n Bqq:R}{aae:bg}{aag:dV}{Tt:uC}{Ht:sw}{vt:lB}{wt:kl}
def amx(u:ib aae)(tx:qo P ng aae n aag Tt Ht vt wt){r:Row}(D:s<=i)(J:M i=V)(y:dN aag wt i=2)(F:(Ht (i+1)).ah.get (Ht i).ae=O r):∀k,i<k->k<=aag.size->gJ aag Ht wt s M k (Ht i).ae=O r
 |0,h,_=>by omega
 |k+1,h,N=>by
  rw[gJ];by_cases e:i=k;.subst e;rw[aY ⟨D,J,y⟩,iW];exact F
  have A:=amx u tx D J y F k aa aa;split
  .have K:(Ht (i+1)).ae=(Ht i).ae+1:=by obtain⟨_,_,_,_,h⟩:=DZ tx y;exact h
   have:=(sW u tx k (i+1) aa aa).1;rw[gO _ aa];exact A
  exact A
def aaQ(tx:qo P ng aae n aag Tt Ht vt wt):∀(k v:R) (r:Row),gJ aag Ht wt s M k v=O r->∃i,s<=i/\i<k/\M i=V/\dN aag wt i=2/\v=(Ht i).ae/\(Ht (i+1)).ah.get (Ht i).ae=O r
 |0,v,r,h=>by cases h
 |k+1,v,r,h=>by
  rw[gJ]at h;split at h
  .rename_i u;by_cases e:(Ht k).ae=v;.subst e;rw[iW]at h;exact⟨k,u.1,aa,u.2.1,u.2.2,Q,h⟩
   rw[gO _ e]at h;obtain⟨i,a,b,c⟩:=aaQ tx k v r h;exact⟨i,a,aa,c⟩
  obtain⟨i,a,b,c⟩:=aaQ tx k v r h;exact⟨i,a,aa,c⟩
def NR(P:aA)(ng:R)(aag:dV)(Tt:uC)(Ht:sw)(vt:lB)(wt:kl)(j:R)(o:Op):Prop:=∃p,p<=j/\(p=0\/∃q,p=q+1/\dN aag wt q=3)/\(∀i,p<=i->i<j->dN aag wt i≠3)/\(∀i,p<=i->i<j->dN aag wt i=2->tb (eA aag j) i=V)/\dY P ng (Tt j) (λ u=>match(Ht p).ah.get u with|X=>(Ht j).ah.get u|O _=>X) o=O (vt j)
def NR.reads(A:ib aae)(tx:qo P ng aae n aag Tt Ht vt wt)(S:j<aag.size)(h:NR P ng aag Tt Ht vt wt j o){p:R}(N:p<=j)(y:p=0\/∃q,p=q+1/\dN aag wt q=3):
 dY P ng (Tt j) (jB (gJ aag Ht wt p (λ k=>tb (eA aag j) k) aag.size) (Ht p).ah.get) o=O (vt j):=by
 obtain⟨p0,h1,h2,D,M,h5⟩:=h
 have J:p<=p0:=by
  rcases y with rfl|⟨q,rfl,F⟩
  .omega
  rcases yi q p0 with h|h
  .omega
  exact akQ F (D q h aa)
 refine BF (λ u r hu=>?_) h5;split at hu
 .rename_i K;rw[<-(adJ tx h1 aa M D j h1 (aZ _)).1]at hu;rcases AO hu with h|⟨_,h⟩
  .obtain⟨i,a,b,c,d,rfl,f⟩:=aaQ tx _ u r h;exact Bl (amx A tx aa c d f _ aa (aZ _))
  rw[K]at h;cases h
 .cases hu
def ahh:∀k,kD aag Ht wt k=[]->∀q,q<k->dN aag wt q≠3
 |0,_,q,y=>by omega
 |k+1,h,q,y=>by
  rw[kD]at h;split at h;.cases h
  rename_i A;rcases uJ (Cy y)with rfl|u
  .exact A
  exact ahh k h q u
def aeA{e:R×kH}:∀k,kD aag Ht wt k=e::es->e.1<k/\dN aag wt e.1=3/\e.2=(Ht (e.1+1)).ah/\∀q,e.1<q->q<k->dN aag wt q≠3
 |0,h=>by cases h
 |k+1,h=>by
  rw[kD]at h;split at h;.rename_i y;cases h;exact⟨kF _,y,Q,λ q h1 h2=>aa⟩
  rename_i y;obtain⟨a,b,c,d⟩:=aeA k h;refine⟨aa,b,c,λ q h1 h2=>?_⟩;rcases uJ (Cy h2)with rfl|u
  .exact y
  exact d q h1 u
structure ach (P:aA) (ng:R) (aag:dV) (Tt:uC) (Ht:sw) (vt:lB) (wt:kl) (k:R) (S:jf):Prop where
 es:S.es=kD aag Ht wt k
 pd:∀i,i<k->(dN aag wt i=2\/dN aag wt i=3)->i∈S.bM
 lt:∀i∈S.bM,i<k
 rd:∀j o,j<k->aag[j]? =some o->dN aag wt j=1->(j,Tt j,o.op,vt j)∈S.rs\/(j∈S.bM/\NR P ng aag Tt Ht vt wt j o.op)
 ch:∀q,q<k->dN aag wt q=3->∀i∈S.bM,i<q->tb (eA aag q) i=true
def aqL(h:FI P ng (eA aag i) (Ht 0).ah S (Tt i) (Ht i) o (vt i)=V)(inv:ach P ng aag Tt Ht vt wt i S):NR P ng aag Tt Ht vt wt i o:=by
 unfold FI at h;split at h;.rename_i y;rw[bq,iw]at h;rw[inv.es]at y;exact⟨0,kG _,.inl Q,λ q _ u=>ahh i y q u,λ q _ u A=>h.1 q (inv.pd q u (.inl A)),(QQ h.2)⟩
 rename_i e es y;rw[bq,iw]at h;rw[inv.es]at y;obtain⟨a,b,c,d⟩:=aeA i y;refine⟨e.1+1,a,.inr ⟨e.1,Q,b⟩,λ q h1 u=>d q aa u,λ q h1 u A=>?_,?_⟩
 .have:=h.1 q (inv.pd q u (.inl A));rw[rP]at this;rcases this with h|h
  .have:=iT h;omega
  exact h
 have:=QQ h.2;rw[c]at this;exact this
theorem aoG(tx:qo P ng aae n aag Tt Ht vt wt):
 ∀{l:dM} {i:R} {S S':jf} {T':aM} {H':aj},aag.toList.drop i=l->i<=aag.size->ach P ng aag Tt Ht vt wt i S->nV P ng aae n (Ht 0).ah aag.toList (eA aag) l i S (Tt i) (Ht i)=O (S',T',H')->ach P ng aag Tt Ht vt wt aag.size S'
 |[],i,S,S',T',H',A,hi,inv,h=>by
  have hN:i=aag.size:=by grind[List.drop_eq_nil_iff]
  cases h;rw[<-hN];exact inv
 |o::l,i,S,S',T',H',A,hi,inv,h=>by
  have K:aag[i]? =O o:=by
   have:(aag.toList.drop i)[0]? =O o:=by rw[A];rfl
   grind
  have ab:i<aag.size:=by grind
  have ac:aag.toList.drop (i+1)=l:=by rw[<-sJ,A];rfl
  have N:dN aag wt i=if wt i then min 3 (dK o.op)else 4:=by simp[dN,K]
  unfold nV at h;rw[<-tx.want i o K]at h;cases hw:wt i;.rw[hw]at h;cases h
  rw[hw]at h N;simp at h N;rw[tx.yes i o K hw]at h;simp only[]at h;rw[<-tx.tmp i o K]at h;split at h<;>try cases h
  rename_i S1 J;refine aoG tx ac ab ?_ h;unfold CN at J;split at J
  .rename_i Y;cases J;refine⟨?_,λ q y h=>?_,λ q y=>jc (inv.lt q y),λ j F hj u h=>?_,λ q y h a D A=>?_⟩;.rw[inv.es];simp[kD,(show dN aag wt i=0 by rw[N,Y];rfl)]
   .by_cases e:q=i;.subst e;omega
    exact inv.pd q aa h
   .by_cases e:j=i;.subst e;omega
    exact inv.rd j F aa u h
   by_cases e:q=i;.subst e;omega
   exact inv.ch q aa h a D A
  .rename_i Y;have M:dN aag wt i=1:=by rw[N,Y];rfl
   split at J
   .rename_i hn;cases J;refine⟨?_,λ q y h=>?_,λ q y=>?_,λ j F hj u h=>?_,λ q y h a D A=>?_⟩;.show S.es=_;rw[inv.es];simp[kD,M]
    .by_cases e:q=i;.subst e;omega
     exact cV _ (inv.pd q aa h)
    .rcases cg.1 (y)with rfl|y
     .omega
     exact jc (inv.lt q y)
    .by_cases e:j=i;.subst e;rw[K]at u;cases u;exact .inr ⟨dJ ..,(aqL hn inv)⟩
     rcases inv.rd j F aa u h with h|⟨h,h'⟩
     .exact .inl h
     exact .inr ⟨cV _ h,h'⟩
    by_cases e:q=i;.subst e;omega
    rcases cg.1 (D)with rfl|D
    .omega
    exact inv.ch q aa h a D A
   cases J;refine⟨?_,λ q y h=>?_,λ q y=>jc (inv.lt q y),λ j F hj u h=>?_,λ q y h a D A=>?_⟩;.show S.es=_;rw[inv.es];simp[kD,M]
   .by_cases e:q=i;.subst e;omega
    exact inv.pd q aa h
   .by_cases e:j=i;.subst e;rw[K]at u;cases u;exact .inl (dJ ..)
    rcases inv.rd j F aa u h with h|h
    .exact .inl (cV _ h)
    exact .inr h
   by_cases e:q=i;.subst e;omega
   exact inv.ch q aa h a D A
  .rename_i Y;cases J;refine⟨?_,λ q y h=>?_,λ q y=>?_,λ j F hj u h=>?_,λ q y h a D A=>?_⟩;.show S.es=_;rw[inv.es];simp[kD,(show dN aag wt i=2 by rw[N,Y];rfl)]
   .by_cases e:q=i;.subst e;exact dJ ..
    exact cV _ (inv.pd q aa h)
   .rcases cg.1 (y)with rfl|y
    .omega
    exact jc (inv.lt q y)
   .by_cases e:j=i;.subst e;omega
    rcases inv.rd j F aa u h with h|⟨h,h'⟩
    .exact .inl h
    exact .inr ⟨cV _ h,h'⟩
   by_cases e:q=i;.subst e;omega
   rcases cg.1 (D)with rfl|D
   .omega
   exact inv.ch q aa h a D A
  have ad:3<=dK o.op:=by grind
  split at J<;>try cases J
  rename_i hp;refine⟨?_,λ q y h=>?_,λ q y=>?_,λ j F hj u h=>?_,λ q y h a D A=>?_⟩;.show(i,(Ht (i+1)).ah)::S.es=_;rw[inv.es];simp[kD,(aa:dN aag wt i=3)]
  .by_cases e:q=i;.subst e;exact dJ ..
   exact cV _ (inv.pd q aa h)
  .rcases cg.1 (y)with rfl|y
   .omega
   exact jc (inv.lt q y)
  .by_cases e:j=i;.subst e;omega
   rcases inv.rd j F aa u h with h|⟨h,h'⟩
   .exact .inl h
   exact .inr ⟨cV _ h,h'⟩
  rcases cg.1 (D)with rfl|Z
  .omega
  by_cases e:q=i;.subst e;exact Zh hp a Z
  exact inv.ch q aa h a Z A
def aak{aag:dM}:∀{l:dM} {i:R} {S u:jf} {T T':aM} {H H':aj},nV P ng aae n objs0 aag bef l i S T H=O (u,T',H')->gv P ng aae n aag l T H=O (T',H')
 |[],i,S,u,T,T',H,H',h=>by cases h;rfl
 |o::l,i,S,u,T,T',H,H',h=>by
  unfold nV at h;rw[zR];split at h<;>try cases h
  rename_i y;rw[aY y];split at h;.cases h
  rename_i r A;rw[A];split at h;.cases h
  exact aak h
end
section
variable{a:Act}
variable{P:aA}{ng n Bqq:R}{aae:bg}{aag:dV}{Tt:uC}{Ht:sw}{vt:lB}{wt:kl}
def am2(ab:jV P ng aae)(N:ib aae)(ag:N1 aag=V){H:aj}(wf:WF H)
 (h:pQ P ng (eA aag) H.ah (nV P ng aae n H.ah aag.toList (eA aag) aag.toList 0 ⟨[],[],[]⟩ T H)=O (T',H')):
 ∃Tt Ht vt wt,BT P ng aae n aag Tt Ht vt wt/\Tt 0=T/\Ht 0=H/\Tt aag.size=T'/\Ht aag.size=H':=by
 unfold pQ at h;split at h<;>try cases h
 rename_i S T1 H1 u;split at h<;>cases h;rename_i y;obtain⟨Tt,Ht,vt,wt,tx,Y,A,ai,ak⟩:=Wq (aak u);rw[<-Y,<-A]at u;have inv:=aoG tx (gU) (kG _) ⟨Q,λ i hi=>absurd hi (adV i),λ i hi=>absurd hi (lr),λ j o hj=>absurd hj (adV j),λ q J=>absurd J (adV q)⟩ u;refine⟨Tt,Ht,vt,wt,⟨tx,ab,N,A▸wf,ag,λ k F i af ae=>?_,λ j o ho F p hp D up Z=>?_⟩,Y,A,ai,ak⟩;.have ad:=DH (by rw[F];decide);exact inv.ch k ad F i (inv.pd i aa ae) af
 .have M:=DH (by rw[F];decide);rcases inv.rd j o M ho F with hm|⟨hm,ac⟩
  .have h1:=Uz y _ hm;rw[inv.es,<-A]at h1;exact .inl (MD _ X h1 p hp D up Z)
  rcases yi j p with K|K
  .rcases D with rfl|⟨q,rfl,J⟩
   .omega
   have al:q≠j:=λ e=>by subst e;rw[J]at F;cases F
   exact .inl (.inr (.inl ⟨q,Q,inv.ch q (DH (by rw[J];decide)) J j hm aa⟩))
  exact .inr (ac.reads N tx M K D)
def abI(D:k<aag.size)(h:AG aag=true):AG (qj k aag)=true:=by
 unfold AG at h⊢;rw[iw]at h⊢;intro o K;obtain⟨j,F⟩:=aKd.1 K;have y:=by simpa using((pC.1 F).1)
 rw[z8]at y;have u:=VO D y;have J:=Lz D (AY u);rw[OR]at J;have A:=by simpa using F
 rw[J]at A;cases A;exact(h aag[yC k j] (aKe u))
def Pq:∀i,(vj m false).getD (sg k i) false=(vj m false).getD i false:=by
 have:∀i,(vj m false).getD i false=false:=by intro i;rw[qh,adU];split<;>rfl
 intro i;rw[this,this]
def ZI(h:tm aag=true):AG aag=true/\aag.size=14/\wo (kz aag)=true:=by unfold tm at h;simp at h;exact⟨h.1,h.2.1,h.2.2.2⟩
def agv:(kz aag).size=aag.size:=by simp[kz,z8]
theorem LQ(h:p:=by simp[z8];omega):p:=h
theorem Ia(h:p:=by simp[z8]):p:=h
def af5{md:aeh}{Qqq:rm}(u:AG aag=V)(D:aag.size=14){w:cG}(h:asb P md (kz aag) Qqq aag.size (vj aag.size W) a w):asb P md aag Qqq aag.size (vj aag.size W) a w:=by have A:=abI (k:=9) aa u;have y:=abI (k:=9) (by rw[z8];omega) A;exact Nv aa u aw aw Pq (Nv (by rw[z8];omega) A Ia Ia Pq (Nv LQ y Ia Ia Pq (Nv LQ (abI LQ y) Ia Ia Pq h)))
theorem aFo(A:jV P ng aae)(F:ib aae){id:R}{H:aj}{w:cG}{Qqq:rm}(N:tm aag=V)
 (h:pQ P ng (eA (kz aag)) H.ah (nV P ng aae n H.ah (kz aag).toList (eA (kz aag)) (kz aag).toList 0 ⟨[],[],[]⟩ T H)=O (T',H')) (s:jU Bqq ng ρ H w) (wf:WF H) (u:ll ρ H.ae H'.ae) (Z:hY ρ n T a.tmps) (Y:a.defers=[])
 (hQ:∀J K ρ',hY ρ' n T' J.tmps->J.defers=[]->cW Bqq ng H.ah.get H.ae H'.ae ρ w H'.ah.get H'.aV.get ρ' K->Qqq .normal J K):(Code.region id aag V).wp P Qqq a w:=by
 obtain⟨S,M,y⟩:=ZI N;rw[wo,bq]at y;obtain⟨Tt,Ht,vt,wt,d,h1,h2,h3,h4⟩:=am2 A F y.2 wf h;have any:∀md,uR md _ (abg md (kz aag) 0) []=V->∀t,wpOps P aag Qqq (abg md aag t) a _:=λ md D t=>by have:=(TG d h1 h2 h3 h4 s u Z Y hQ) md _ D;rw[agv]at this;exact wpAny_sound _ t _ a _ (af5 S M this)
 grind[aAA,atQ]
theorem aeS(M:jV P ng aae)(Y:ib aae){id:R}(A:draw=V->wo aag=V){H:aj}{w:cG}{Qqq:rm}
 (h:kK P ng aae n aag T H draw=O (T',H')) (s:jU Bqq ng ρ H w) (wf:WF H) (u:ll ρ H.ae H'.ae) (hT:hY ρ n T a.tmps) (hd:a.defers=[])
 (hQ:∀a' w' ρ',hY ρ' n T' a'.tmps->a'.defers=[]->cW Bqq ng H.ah.get H.ae H'.ae ρ w H'.ah.get H'.aV.get ρ' w'->Qqq .normal a' w'):(Code.region id aag draw).wp P Qqq a w:=by
 cases draw;.refine wp_region ?_;have:=V4 M Y _ 0 T T' H H' ρ a w Q h s wf u hT hd hQ;grind[List.range_eq_range']
 .rcases Xh h with h|⟨hr,h⟩
  .have A:=A Q;rw[wo,bq]at A;unfold pQ at h;split at h<;>try cases h
   rename_i S T1 H1 F;split at h<;>try cases h
   rename_i D;obtain⟨Tt,Ht,vt,wt,tx,aa,Z,ai,ak⟩:=Wq (Iv F);have K:kx P ng aae n aag.toList (eA aag) aag.toList 0 ⟨oY aag wt 0,kD aag Ht wt 0,qz aag Tt vt wt 0⟩ (Tt 0) (Ht 0)=O (S,T',H'):=by rw[aa,Z];exact F
   obtain⟨rfl,ag⟩:=OM tx (gU) (kG _) K
   have y:∀k i,i<k->(dN aag wt i=2\/dN aag wt i=3)->i∈oY aag wt k:=by
    intro k;induction k with
    |zero=>omega
    |succ k ab=>grind[oY]
   have J:∀k j o,j<k->aag[j]? =O o->dN aag wt j=1->(j,Tt j,o.op,vt j)∈qz aag Tt vt wt k:=by
    intro k;induction k with
    |zero=>omega
    |succ k ab=>
     intro j o hj ho N;rw[qz];rcases uJ (Cy hj)with rfl|an
     .rw[aY N];simp[ho]
     grind
   have d:BT P ng aae n aag Tt Ht vt wt:={
    tx:=tx,ok:=M,grow:=Y,wf:=Z▸wf,apart:=A.2,
    chain:=λ k N i af ad=>ag k (kG _) (DH (by rw[N];decide)) N i (y k i af ad),
    reads:=λ j o ho N p hp am up al=>by have:=Uz D _ (J _ j o (DH (by rw[N];decide)) ho N);exact .inl (by grind[MD])}
   have any:∀md,uR md aag (abg md aag 0) []=V->∀t,wpOps P aag Qqq (abg md aag t) a _:=λ md ac t=>wpAny_sound aag.size t _ a _ ((TG d aa Z ai ak s u hT hd hQ) md _ ac)
   grind[aAA,atQ]
  exact aFo M Y hr h s wf u hT hd hQ
def adb{aag:dV}{H:aj}{r:aM×aj}(h:kK P ng aae n aag T H draw=O r):gv P ng aae n aag.toList aag.toList T H=O r\/(tm aag=V/\gv P ng aae n (kz aag).toList (kz aag).toList T H=O r):=by
 cases draw;.exact .inl h
 rcases Xh h with h|⟨y,h⟩
 .unfold pQ at h;split at h;.rename_i S A D u;split at h<;>cases h;exact .inl (Iv u)
  cases h
 unfold pQ at h;split at h;.rename_i S A D u;split at h<;>cases h;exact .inr ⟨y,aak u⟩
 cases h
end
section
variable{a:Act}
variable{P:aA}{ng n Bqq:R}{aae:bg}
def uP:af8->mi
 |.region _ aag draw=> !draw||wo aag
 |.seq a b=>uP a&&uP b
 |.cond _ a b=>uP a&&uP b
 |.block _ c=>uP c
 |.loop c=>uP c
 |_=>V
def oP.up:oP->Exit
 |.normal=>.normal
 |.exit id=>.exit id
 |.ret=>.ret
def Ea(P:aA)(c:af8)(Qqq:rm)(a:Act)(w:cG):Prop:=∀(b:Frame) (k:B Item) (cs:B Frame),∃e y u,Qqq e y u/\Arrives P (lone (b.at a (.code c::.inLoop c::k)) cs w) b k cs e y u
def Ea.wp{c:af8}{Qqq:rm}{w:cG}(h:Ea P c Qqq a w):(Code.loop c).wp P Qqq a w:=λ b k cs=>let⟨e,y,u,q,r⟩:=h b k cs;⟨e,y,u,q,.of_steps (.one step_loop) r⟩
def Ea.round{c:af8}{Qqq:rm}{w:cG}(h:c.wp P (Exit.then (Ea P c Qqq) Qqq) a w):Ea P c Qqq a w:=by
 intro b k cs;obtain⟨e,A,y,J,u⟩:=h b _ cs;cases e with
 |normal=>
  obtain⟨M,N,K,F,D⟩:=J b k cs;exact⟨M,N,K,F,.of_steps (Steps.trans u (.one step_inLoop)) D⟩
 |exit id=>exact⟨_,A,y,J,.pass Q (λ _ _=>.inl aw) u⟩
 |goto l=>exact⟨_,A,y,J,.pass Q (λ _ _=>.inl aw) u⟩
 |ret=>exact⟨_,A,y,J,.pass Q (λ _ _=>.inl aw) u⟩
 |panic ch=>exact⟨_,A,y,J,.pass Q (λ _ _=>.inl aw) u⟩
 |outgrown=>exact⟨_,A,y,J,.pass Q (λ _ _=>.inl aw) u⟩
theorem Gi{k:aM->aj->uQ}{r:uQ}{x:Jh}(h:andThen k r=O x):(∃T H,r=O (.normal,T,H)/\k T H=O x)\/(r=O x/\x.1≠.normal):=by unfold andThen at h;grind
theorem avi(u:ib aae){aag:dV}{H:aj}(h:kK P ng aae n aag T H draw=O (T',H')):iM H H':=by
 rcases adb h with h|⟨_,h⟩
 .exact Lh u h
 exact Lh u h
theorem Dq(D:ib aae):∀(m:R) (c:af8) (T:aM) (H:aj) (e:oP) (T':aM) (H':aj),dE P ng aae n m c T H=O (e,T',H')->iM H H':=by
 intro m;induction m with
 |zero=>intro c T H e T' H' h;cases h
 |succ m u=>
  intro c T H e T' H' h;cases c with
  |skip=>cases h;exact iM.refl _
  |region id aag d=>
   change rG _=_ at h;unfold rG at h;grind[avi]
  |seq a b=>
   rcases Gi h with⟨y,A,h1,h2⟩|⟨h1,_⟩
   .exact(u a T H _ y A h1).trans (u b y A e T' H' h2)
   exact u a T H e T' H' h1
  |cond x a b=>
   change oL (dE P ng aae n m a T H) (dE P ng aae n m b T H) _=_ at h;unfold oL at h;grind
  |block id a=>
   change nN id (dE P ng aae n m a T H)=_ at h;unfold nN at h;grind
  |loop a=>
   rcases Gi h with⟨y,A,h1,h2⟩|⟨h1,_⟩
   .exact(u a T H _ y A h1).trans (u _ y A e T' H' h2)
   exact u a T H e T' H' h1
  |exit id=>cases h;exact iM.refl _
  |ret=>cases h;exact iM.refl _
  |_=>cases h
theorem aG0(al:jV P ng aae)(ac:ib aae):∀(m:R),(∀(c:af8) (T:aM) (H:aj) (e:oP) (T':aM) (H':aj),dE P ng aae n m c T H=O (e,T',H')->uP c=V->
 ∀(ρ:dO) (a:Act) (w:cG) (Qqq:rm),jU Bqq ng ρ H w->WF H->ll ρ H.ae H'.ae->hY ρ n T a.tmps->a.defers=[]->
 (∀F J ρ',hY ρ' n T' F.tmps->F.defers=[]->cW Bqq ng H.ah.get H.ae H'.ae ρ w H'.ah.get H'.aV.get ρ' J->Qqq e.up F J)->c.wp P Qqq a w)/\
 (∀(c:af8) (T:aM) (H:aj) (e:oP) (T':aM) (H':aj),dE P ng aae n m (.loop c) T H=O (e,T',H')->uP c=V->
  ∀(ρ:dO) (a:Act) (w:cG) (Qqq:rm),jU Bqq ng ρ H w->WF H->ll ρ H.ae H'.ae->hY ρ n T a.tmps->a.defers=[]->
  (∀F J ρ',hY ρ' n T' F.tmps->F.defers=[]->cW Bqq ng H.ah.get H.ae H'.ae ρ w H'.ah.get H'.aV.get ρ' J->Qqq e.up F J)->Ea P c Qqq a w):=by
 intro m;induction m with
 |zero=>exact⟨(nofun),(nofun)⟩
 |succ m ih=>
  obtain⟨K,ak⟩:=ih
  have loops:∀(c) (T) (H) (e) (T') (H'),dE P ng aae n (m+1) (.loop c) T H=O (e,T',H')->uP c=V->
   ∀(ρ) (a) (w) (Qqq),jU Bqq ng ρ H w->WF H->ll ρ H.ae H'.ae->hY ρ n T a.tmps->a.defers=[]->
   (∀F J ρ',hY ρ' n T' F.tmps->F.defers=[]->cW Bqq ng H.ah.get H.ae H'.ae ρ w H'.ah.get H'.aV.get ρ' J->Qqq e.up F J)->Ea P c Qqq a w:=by
   intro c T H e T' H' h u ρ a w Qqq s wf Z N S Y;refine Ea.round ?_;rcases Gi h with⟨T1,H1,h1,h2⟩|⟨h1,hn⟩
   .have g1:=Dq ac m c T H _ T1 H1 h1;have g2:=Dq ac m _ T1 H1 e T' H' h2;exact K c T H _ T1 H1 h1 u ρ a w _ s wf (Z.sub (aZ _) g2.1) N S (λ F J ρ' D A M=>(ak c T1 H1 e T' H' h2 u ρ' F J Qqq M.cA (g1.2 wf) (Z.Iz M g1.1) D A (λ ai af aa ad ab ag=>Y ai af aa ad ab (M.trans ag g1.1 g2.1))))
   .refine K c T H e T' H' h1 u ρ a w _ s wf Z N S (λ F J ρ' D A M=>?_);have:=Y F J ρ' D A M;cases e with
    |normal=>exact akQ Q hn
    |exit id=>exact this
    |ret=>exact this
  refine⟨?_,loops⟩;intro c T H e T' H' h u ρ a w Qqq s wf Z N S Y;cases c with
  |skip=>cases h;exact wp_skip (Y a w ρ N S (cW.refl s _ _))
  |region id aag d=>
   change rG _=_ at h;unfold rG at h;split at h;.rename_i T1 H1 hr;cases h;refine aeS al ac (λ an=>?_) hr s wf Z N S Y;grind[uP]
   cases h
  |seq x y=>
   rw[uP,bq]at u;refine wp_seq ?_;rcases Gi h with⟨T1,H1,h1,h2⟩|⟨h1,hn⟩
   .have g1:=Dq ac m x T H _ T1 H1 h1;have g2:=Dq ac m y T1 H1 e T' H' h2;exact K x T H _ T1 H1 h1 u.1 ρ a w _ s wf (Z.sub (aZ _) g2.1) N S (λ F J ρ' D A M=>(K y T1 H1 e T' H' h2 u.2 ρ' F J Qqq M.cA (g1.2 wf) (Z.Iz M g1.1) D A (λ ai af aa ad ab ag=>Y ai af aa ad ab (M.trans ag g1.1 g2.1))))
   refine K x T H e T' H' h1 u.1 ρ a w _ s wf Z N S (λ F J ρ' D A M=>?_);have:=Y F J ρ' D A M;cases e with
   |normal=>exact akQ Q hn
   |exit id=>exact this
   |ret=>exact this
  |cond x y z=>
   change oL _ _ _=_ at h;rw[uP,bq]at u;unfold oL at h;split at h;.rename_i hx;exact wp_cond_true (jq N s.lW hx) (K y T H e T' H' h u.1 ρ a w Qqq s wf Z N S Y)
   .rename_i hx;exact wp_cond_false (jq N s.lW hx) (K z T H e T' H' h u.2 ρ a w Qqq s wf Z N S Y)
   cases h
  |block id x=>
   change nN id _=_ at h;refine wp_block ?_;unfold nN at h;split at h
   .rename_i j T1 H1 h1;split at h;.rename_i hj;cases h;refine K x T H _ _ _ h1 u ρ a w _ s wf Z N S (λ F J ρ' D A M=>?_);show Exit.inBlock id Qqq (.exit j) F J;simp[Exit.inBlock,beq_true hj];exact Y F J ρ' D A M
    rename_i hj;cases h;refine K x T H _ _ _ h1 u ρ a w _ s wf Z N S (λ F J ρ' D A M=>?_);show Exit.inBlock id Qqq (.exit j) F J;simp[Exit.inBlock,beq_false hj];exact Y F J ρ' D A M
   rename_i am;refine K x T H e T' H' h u ρ a w _ s wf Z N S (λ F J ρ' D A M=>?_);have:=Y F J ρ' D A M;cases e with
   |normal=>exact this
   |exit j=>exact akQ h (am j T' H')
   |ret=>exact this
  |loop x=>exact(loops x T H e T' H' h u ρ a w Qqq s wf Z N S Y).wp
  |exit id=>cases h;exact wp_exit (Y a w ρ N S (cW.refl s _ _))
  |ret=>cases h;exact wp_ret (Y a w ρ N S (cW.refl s _ _))
  |_=>cases h
end
section
variable{P:aA}{ng Bqq:R}
theorem ahU:∀(u:aF) (i:R) (T:aM) (j:R),ai (eH u i T) j=if i<=j/\j<i+u.length then(u[j-i]?).getD (.tuple [])else ai T j
 |[],i,T,j=>by grind[eH]
 |v::u,i,T,j=>by rw[eH,ahU u _ _ j];grind[Fi,Tr.jg]
theorem afP{u:jZ}(h:dS ρ args u)(k:R):hY ρ (args.length+k) (eH args 0 .nil) (⟨u⟩++vj k undef):=by
 have y:=pY h;refine⟨by simp[y],λ i=>?_⟩;rw[ahU,qh];by_cases A:i<args.length;.grind[vL]
 have h1:ai Tr.nil i=.tuple []:=rfl;grind[P2]
def FN(tmps:kA):ResultVar->Sem ye
 |.tmp t=>pure (tmps.getD t undef)
 |.cell a t=>do loadVar t (<-asAddr (tmps.getD a undef))
theorem Qp{n:R}{D:fE}{aI:vd}{w:cG}(s:gP Bqq ng ρ D aI w.heap){tmps:kA}(F:hY ρ n T tmps):∀{rs:B ResultVar} {l:aF},
 eG P D T rs=O l->∃A,dS ρ l A/\(rs.mapM (FN tmps)).run P w=.ok A w
 |[],l,h=>by cases h;exact⟨[],Q,aw⟩
 |.tmp t::rs,l,h=>by rw[eG]at h;split at h<;>cases h;rename_i S K;obtain⟨A,h1,h2⟩:=Qp s F K;refine⟨tmps.getD t undef::A,ep.2 ⟨_,_,Q,F.get t,h1⟩,?_⟩;grind[Sem.run_bind,FN,Sem.run_pure,Result.andThen_ok]
 |.cell x t::rs,l,h=>by
  rw[eG]at h;split at h<;>cases h;rename_i v S J K;obtain⟨A,h1,h2⟩:=Qp s F K;obtain⟨r,Y,M⟩:=acY s (F.get x) J;refine⟨r::A,ep.2 ⟨_,_,Q,Y,h1⟩,?_⟩
  have y:(FN tmps (.cell x t)).run P w=.ok r w:=by
   have N:=F.get x;unfold cr at J;split at J;.rename_i u off Z;rw[Z]at N;obtain⟨lc⟩:=N;grind[Instr.loadAt,Instr.sureAddr,FN,asAddr]
   cases J
  simp[y];rw[h2];rfl
def qc:aF->au
 |[v]=>v
 |l=>.tuple l
def abG:jZ->ye
 |[v]=>v
 |l=>.tuple ⟨l⟩
def ak0{tmps:kA}{w:cG}{y:jZ}(h:(fn.results.toList.mapM (FN tmps)).run P w=.ok y w):
 (results fn tmps).run P w=.ok (abG y) w:=by
 have e:(fn.results.mapM (FN tmps)).run P w=.ok y.toArray w:=by generalize fn.results=rs at h;obtain⟨rl⟩:=rs;simp_all
 have e2:results fn tmps=(do let y<-fn.results.mapM (FN tmps);pure (if h:y.size=1 then y[0]else .tuple y)):=by congr 1
 rw[e2,Sem.run_bind,e]
 match y with
 |[]=>rfl
 |[v]=>rfl
 |v::u::y=>rfl
def Yl(P:aA)(ng:R)(sm:QH):Prop:=∀f args H v,sm f args H=O v->∀Bqq ρ w u,jU Bqq ng ρ H w->WF H->dS ρ args u->Calls P f ⟨u⟩ w (λ e y=>∃x,e=.returned x/\bW ρ v x/\cW Bqq ng H.ah.get H.ae H.ae ρ w H.ah.get H.aV.get ρ y)
def xW(P:aA):Prop:=∀(f:ck) (fn:Func) (c:af8),P.funcs[f]? =O fn->fn.body=O c->uP c=V
def aEt{H:aj}{v:au}(h:LM P ng aae args H fn=O (v,H')):
 ∃c e T l,fn.body=O c/\dE P ng aae (args.length+(fn.ntmps-args.length)) 1000000 c (eH args 0 .nil) H=O (e,T,H')/\(∀id,e≠.exit id)/\eG P H'.ah.get T fn.results.toList=O l/\v=qc l:=by
 unfold LM at h;cases J:fn.body;.rw[J]at h;cases h
 .rename_i c;rw[J]at h;have h:Vx P fn _=O _:=h;generalize F:dE P ng aae _ _ c _ H=r at h;unfold Vx at h;split at h<;>try cases h
  rename_i e T N u;split at h;.rename_i M A;cases h;exact⟨c,e,T,[v],Q,F,λ id D=>u id (by rw[D]),A,Q⟩
  .rename_i l K A;cases h;refine⟨c,e,T,l,Q,F,λ id D=>u id (by rw[D]),A,?_⟩
   match l with
   |[]=>rfl
   |[x]=>exact akQ Q (K x)
   |x::y::l=>rfl
  cases h
end
abbrev MP:=B (R×R×R)
abbrev Ph:=MP->au->au->gw MP
def wQ(m:MP)(c:R):lY:=List.rec (motive:=λ _=>lY) X (λ p _ u=>vi (motive:=λ _=>lY) u (O p.2) (gr p.1 c)) m
def amd:bA->bA->mi
 |X,X=>V
 |O a,O b=>gr a b
 |_,_=>W
def CS:U->U->mi
 |.ofNat a,.ofNat b=>gr a b
 |.negSucc a,.negSucc b=>gr a b
 |_,_=>W
def Gy:jo->jo->mi
 |[],[]=>V
 |a::u,b::bs=>gr a.toNat b.toNat&&Gy u bs
 |_,_=>W
def Um(b:mi)(m:MP):gw MP:=match b with|V=>O m|W=>X
def Ec(f:Ph):aF->aF->MP->gw MP
 |[],[],m=>O m
 |c::cs,a::u,m=>match f m c a with|O y=>Ec f cs u y|X=>X
 |_,_,_=>X
def ZW(f:Ph)(u y:fE)(m:MP)(c a off:R):gw MP:=
 match wQ m c with
 |O _=>X
 |X=>
  match u c,y a with
  |O rc,O ra=>
   match gr rc.sz ra.sz,rc.exact,rc.ro,th (off+rc.cells.length) ra.cells.length with
   |V,W,V,V=>Ec f rc.cells ((ra.cells.drop off).take rc.cells.length) ((c,a,off)::m)
   |_,_,_,_=>X
  |_,_=>X
def mV(u A:fE):R->MP->au->au->gw MP
 |0,_,_,_=>X
 |k+1,m,c,a=>
  match c,a with
  |.bool x,.bool y=>Um (x==y) m
  |.int j x,.int P y=>Um (decide (j=P)&&CS x y) m
  |.str x,.str y=>Um (Gy x y) m
  |.fq,.fq=>O m
  |.aq,.aq=>O m
  |.nilFunc,.nilFunc=>O m
  |.slice v o n l,.slice J K M N=>
   match gr n M,amd l N,gr o 0 with
   |V,V,V=>ZW (mV u A k) u A m v J K
   |_,_,_=>X
  |.agg F,.agg D=>Ec (mV u A k) F D m
  |_,_=>X
structure uo where
 f:ck
 args:aF
 rows:B (R×Row)
 ae:R
 res:au
abbrev dG:=B uo
def PI:B (R×Row)->kH
 |[]=>.nil
 |p::u=>(PI u).set p.1 (O p.2)
def uo.H(S:uo):aj:=⟨PI S.rows,.nil,S.ae⟩
def au.plain:au->mi
 |.bool _=>V
 |.int .. =>V
 |.str _=>V
 |.fq=>V
 |.aq=>V
 |_=>W
def au.aaK:au->mi
 |.tuple u=>u.all au.plain
 |v=>v.plain
def JT(S:uo)(args:aF)(H:aj):cR:=
 match Ec (mV S.H.ah.get H.ah.get 100) S.args args []with
 |O m=>match S.rows.all (λ i=>(wQ m i.1).isSome)with|V=>O S.res|W=>X
 |X=>X
def apv(u:dG):QH:=λ f args H=>List.rec (motive:=λ _=>cR) X (λ S _ y=>vi (motive:=λ _=>cR) y (DT (motive:=λ _=>cR) y (λ v=>O v) (JT S args H)) (gr S.f f)) u
section
variable{m m':MP}
theorem aaO(p:R×R×R)(m:MP)(c:R):wQ (p::m) c=if p.1=c then O p.2 else wQ m c:=by
 show vi (motive:=λ _=>gw _) (wQ m c) _ _=_;cases e:gr _ c;.rw[aR (beq_false e)]
 rw[aY (beq_true e)]
def aEW{a b:bA}(h:amd a b=V):a=b:=by cases a<;>cases b<;>first|rfl|cases h|rw[beq_true h]
theorem Vi(h:CS a b=V):a=b:=by cases a<;>cases b<;>first|cases h|rw[beq_true h]
theorem acp:∀{a b:jo},Gy a b=V->a=b
 |[],[],_=>rfl
 |a::u,b::bs,h=>by rw[Gy,bq]at h;rw[acp h.2,UInt8.toNat_inj.1 (beq_true h.1)]
 |[],_::_,h=>by simp[Gy]at h
 |_::_,[],h=>by simp[Gy]at h
def W5{b:mi}(h:Um b m=O m'):b=V/\m'=m:=by
 cases b;.cases h
 cases h;exact⟨Q,Q⟩
def yG(m m':MP):Prop:=∀c p,wQ m c=O p->wQ m' c=O p
theorem yG.refl(m:MP):yG m m:=λ _ _ h=>h
theorem yG.trans{a b c:MP}(h:yG a b)(k:yG b c):yG a c:=λ x p e=>k x p (h x p e)
def Bq(ng:R)(ρ:dO)(M:MP):dO:=λ c=>if c<ng then ρ c else
 match wQ M c with
 |O (a,off)=>match ρ a with|O l=>O ⟨l.cU,l.off+off,l.cap-off,l.sz⟩|X=>X
 |X=>X
def amP(ng Bqq:R)(ρ:dO)(h:abB Obj)(gc:fE)(M:MP)(c:R):Prop:=∃rc l C e fz,gc c=O rc/\rc.ro=V/\Bq ng ρ M c=O l/\h[l.cU]? =O (.cells C e fz)/\Ch Bqq (Bq ng ρ M) rc l C fz
def uU(ng Bqq:R)(ρ:dO)(h:abB Obj)(gc:fE)(m m':MP)(Rqq:dO->Prop):Prop:=yG m m'/\∀M,yG m' M->Rqq (Bq ng ρ M)/\∀c p,wQ m' c=O p->wQ m c=O p\/amP ng Bqq ρ h gc M c
def uU.same{ng Bqq:R}{ρ:dO}{h:abB Obj}{gc:fE}{Rqq:dO->Prop}(k:∀r,Rqq r):uU ng Bqq ρ h gc m m Rqq:=⟨yG.refl m,λ _ _=>⟨k _,λ _ _ e=>.inl e⟩⟩
section
variable{ng Bqq B':R}{ρ:dO}{h:abB Obj}{gc ga:fE}{aI:vd}
theorem Tg{f:Ph}(D:∀m c a m',f m c a=O m'->uU ng Bqq ρ h gc m m' (λ r=>∀x,bW ρ a x->bW r c x)):
 ∀(cs u:aF) (m m':MP),Ec f cs u m=O m'->uU ng Bqq ρ h gc m m' (λ r=>∀y,dS ρ u y->dS r cs y)
 |[],[],m,m',e=>by cases e;exact uU.same λ _ _ h=>h
 |c::cs,a::u,m,m',e=>by
  rw[Ec]at e;split at e;.rename_i J h1;obtain⟨F,K⟩:=D _ _ _ _ h1;obtain⟨A⟩:=Tg D cs u J m' e;refine⟨F.trans A,λ M N=>?_⟩;obtain⟨P⟩:=K M (A.trans N);grind[ep]
  cases e
 |[],_::_,_,_,e=>by simp[Ec]at e
 |_::_,[],_,_,e=>by simp[Ec]at e
theorem aAR(s:gP B' ng ρ ga aI h)(ag:∀c r,gc c=O r->ng<=c)
 {f:Ph} (hf:∀m c a m',f m c a=O m'->uU ng Bqq ρ h gc m m' (λ r=>∀x,bW ρ a x->bW r c x)) {c a:R} (e:ZW f gc ga m c a off=O m'):
 uU ng Bqq ρ h gc m m' (λ r=>∃l,ρ a=O l/\r c=O ⟨l.cU,l.off+off,l.cap-off,l.sz⟩):=by
 unfold ZW at e;split at e<;>try cases e
 rename_i ab;split at e<;>try cases e
 rename_i rc ra hc ha;split at e<;>try cases e
 rename_i J ad K D;have D:=iT D;have J:=beq_true J;obtain⟨l,C,t,fz,hl,hb,ok⟩:=s.row a ra ha;obtain⟨s1,k1⟩:=Tg hf _ _ _ _ e;have S:yG m ((c,a,off)::m):=λ x p hx=>by grind[aaO]
 refine⟨S.trans s1,λ M hM=>?_⟩;obtain⟨a1,b1⟩:=k1 M hM;have ac:wQ M c=O (a,off):=hM _ _ (s1 _ _ (by rw[aaO];simp));have P:Bq ng ρ M c=O ⟨l.cU,l.off+off,l.cap-off,l.sz⟩:=by grind[Bq]
 have ai:=ok.len;have ah:=ok.cap;refine⟨⟨l,hl,P⟩,λ c' p N=>?_⟩;rcases b1 c' p N with N|N
 .rw[aaO]at N;split at N
  .rename_i e1;simp at e1;subst e1;right;refine⟨rc,_,C,t,fz,hc,K,P,hb,⟨by simp only;omega,by simp only;omega,λ h1=>(by rw[ad]at h1;cases h1),by simp only;rw[ok.sz,J],λ h1=>(by rw[K]at h1;cases h1),λ h1=>(by rw[K]at h1;cases h1),λ i cc ak=>?_⟩⟩
   have ae:∃A,dS ρ ((ra.cells.drop off).take rc.cells.length) A/\∀j x,A[j]? =O x->C[l.off+off+j]? =O x:=by
    have Y:∀(n:R) (cs:aF) (o:R),cs.length=n->(∀j (c:au),cs[j]? =O c->∃x,C[o+j]? =O x/\bW ρ c x)->∃A,dS ρ cs A/\∀j x,A[j]? =O x->C[o+j]? =O x:=by
     intro n;induction n with
     |zero=>intro cs o y _;obtain rfl:=mF y;exact⟨[],rfl,λ j x hx=>by simp at hx⟩
     |succ n ih=>
      intro cs o y F
      match cs,y with
      |c0::cs,y=>
       obtain⟨x0,af,aa⟩:=F 0 c0 aw;obtain⟨A,Z,hj⟩:=ih cs (o+1) (by simpa using y) (λ j c u=>by obtain⟨x,hx,hr⟩:=F (j+1) c (by simpa using u);grind)
       refine⟨x0::A,ep.2 ⟨x0,A,rfl,aa,Z⟩,λ j x hx=>?_⟩;grind
    refine Y _ _ (l.off+off) rfl λ j c u=>?_
    rw[wT]at u;split at u;.rw[Eu]at u;obtain⟨x,hx,hr⟩:=ok.cells _ _ u;grind
    cases u
   grind[vL]
  exact .inl N
 .exact .inr N
def adC(s:gP B' ng ρ ga aI h)(y:∀c r,gc c=O r->ng<=c):∀(k:R) (m:MP) (c a:au) (m':MP),mV gc ga k m c a=O m'->
 uU ng Bqq ρ h gc m m' (λ r=>∀x,bW ρ a x->bW r c x)
 |0,_,_,_,_,e=>by cases e
 |k+1,m,c,a,m',e=>by
  unfold mV at e;split at e;.obtain⟨h1,rfl⟩:=W5 e;have h1:=eq_of_beq h1;subst h1;exact uU.same λ _ _ h=>h
  .obtain⟨h1,rfl⟩:=W5 e;simp at h1;obtain⟨h1,h2⟩:=h1;have h2:=Vi h2;subst h1 h2;exact uU.same λ _ _ h=>h
  .obtain⟨h1,rfl⟩:=W5 e;have h1:=acp h1;subst h1;exact uU.same λ _ _ h=>h
  .cases e;exact uU.same λ _ _ h=>h
  .cases e;exact uU.same λ _ _ h=>h
  .cases e;exact uU.same λ _ _ h=>h
  .rename_i v o n l v' o' n' K;split at e<;>try cases e
   rename_i S Y P;obtain rfl:=beq_true S;obtain rfl:=aEW Y;obtain rfl:=beq_true P;obtain⟨A,D⟩:=aAR s y (adC s y k) e;refine⟨A,λ M F=>?_⟩;obtain⟨⟨lc,h1,h2⟩,b1⟩:=D M F;refine⟨λ x hx=>?_,b1⟩;cases l;.obtain⟨K,u,rfl⟩:=hx;rw[h1]at u;cases u;exact⟨_,h2,rfl⟩
   rename_i cc;obtain⟨K,u,rfl⟩:=hx;rw[h1]at u;cases u;exact⟨_,h2,rfl⟩
  .obtain⟨A,D⟩:=Tg (adC s y k) _ _ _ _ e;refine⟨A,λ M F=>?_⟩;obtain⟨Z,b1⟩:=D M F;refine⟨λ x hx=>?_,b1⟩;obtain⟨J,rfl,N⟩:=hx;exact⟨J,rfl,Z J N⟩
  cases e
end
def L7:∀{rows:B (R×Row)} {i:R} {r:Row},(PI rows).get i=O r->(i,r)∈rows
 |[],_,_,h=>by cases h
 |p::u,i,r,h=>by
  rw[PI,Tr.jg]at h;split at h;.rename_i e;cases h;subst e;simp
  exact cV _ (L7 h)
def uo.ok(ng:R)(S:uo):Bool:=S.rows.all (λ p=>th ng p.1&&th (p.1+1) S.ae&&th (p.2.aI+1) S.ae)&&th ng S.ae&&S.res.aaK
theorem YY{ρ:dO}:∀{a:au} {x:ye},a.plain=V->bW ρ' a x->bW ρ a x:=by intro a x y u;cases a<;>simp[au.plain]at y<;>exact u
def aeC{ρ:dO}:∀{u:aF} {D:jZ},u.all au.plain=V->dS ρ' u D->dS ρ u D
 |[],_,_,h=>h
 |a::u,_,A,h=>by rw[ny,bq]at A;obtain⟨y,F,rfl,J,k⟩:=ep.1 h;exact ep.2 ⟨y,F,Q,YY A.1 J,aeC A.2 k⟩
def alq{ρ:dO}{a:au}{x:ye}(u:a.aaK=V)(h:bW ρ' a x):bW ρ a x:=by
 cases a with
 |tuple A=>obtain⟨y,rfl,k⟩:=h;exact⟨y,Q,aeC u k⟩
 |_=>exact YY u h
theorem gP.kept{Bqq ng:R}{ρ:dO}{u:fE}{aI:vd}{h y:abB Obj}(s:gP Bqq ng ρ u aI h)(D:h.size<=y.size)(F:∀b,b<h.size->y[b]? =h[b]?):gP Bqq ng ρ u aI y where
 base:=fI s.base D
 lW:=s.lW
 row:=λ v r A=>by obtain⟨l⟩:=s.row v r A;grind
 sep:=s.sep
 aI:=s.aI
theorem awv{ng:R}(hc:jV P ng aae){S:uo}(hS:S.ok ng=true)(ad:aae S.f S.args S.H=O (S.res,H'))
 {H:aj} {v:au} (ht:JT S args H=O v):∀Bqq ρ w xs,jU Bqq ng ρ H w->dS ρ args xs->Calls P S.f ⟨xs⟩ w (λ e w'=>∃x,e=.returned x/\bW ρ v x/\cW Bqq ng H.ah.get H.ae H.ae ρ w H.ah.get H.aV.get ρ w'):=by
 intro Bqq ρ w xs s ac;simp only[uo.ok,bq,iw]at hS;obtain⟨⟨Z,Y⟩,K⟩:=hS;have Y:=iT Y;have N:∀c r,S.H.ah.get c=O r->ng<=c/\c<S.ae/\r.aI<S.ae:=λ c r J=>by obtain⟨⟨h1,h2⟩,h3⟩:=Z _ (L7 J);exact⟨iT h1,iT h2,iT h3⟩
 unfold JT at ht;split at ht<;>try cases ht
 rename_i m hm;split at ht<;>cases ht;rename_i F;obtain⟨a1,b1⟩:=(Tg (adC s (λ c r J=>(N c r J).1) 100) _ _ _ _ hm).2 m (yG.refl m)
 have D:∀c p,wQ m c=O p->amP ng w.heap.size ρ _ _ m c:=λ c p hp=>by
  rcases b1 c p hp with h|h
  .cases h
  exact h
 have M:jU _ ng (Bq ng ρ m) S.H w:={
  base:=aZ _
  lW:=λ g hg=>by obtain⟨c,z,e⟩:=s.lW g hg;grind[Bq]
  row:=λ c r J=>by obtain⟨p,hp⟩:=tN.1 (iw.1 F _ (L7 J));obtain⟨rc,l,C,e,fz,h1,_⟩:=D _ _ hp;grind
  sep:=λ u v ru rv lu lv _ hu hv _ _ _=>by
   have af:∀c r,S.H.ah.get c=O r->r.ro=true:=λ c r J=>by obtain⟨p,hp⟩:=tN.1 (iw.1 F _ (L7 J));obtain⟨rc,l,C,e,fz,h1⟩:=D _ _ hp;grind
   grind
  aI:=λ v r mem hv ag _=>by obtain⟨p,hp⟩:=tN.1 (iw.1 F _ (L7 hv));obtain⟨rc,l,C,e,fz,h1,h5,h2,h3,h4⟩:=D _ _ hp;grind}
 have ab:ll (Bq ng ρ m) _ H'.ae:=λ c h1 _=>by
  have h1:S.ae<=c:=h1;unfold Bq;rw[aR aa];cases hl:wQ m c;.rfl
  rename_i p;obtain⟨rc,_,_,_,_,ai,_⟩:=D _ _ hl;grind
 refine(hc _ _ _ _ _ ad _ _ _ _ M (λ c r J=>(N c r J).2) ab (a1 xs ac)).mono λ e w' ⟨x,ρ',he,hx,y⟩=>?_
 have A:=cW.below M y;refine⟨x,he,alq K hx,?_⟩
 exact{
  cA:=s.kept y.size A
  ext:=λ _ _=>rfl
  os:=y.os
  tape:=y.tape
  output:=y.output
  size:=y.size
  vT:=λ b hb _=>A b hb
  tl:=λ v r l a b c=>.inr ⟨v,r,l,a,b,c,Q⟩
  vq:=λ _ _ h _=>h}
def Jw(P:aA)(ng:R)(S:uo):Prop:=S.ok ng=V/\∃aae H',jV P ng aae/\aae S.f S.args S.H=O (S.res,H')
theorem ahC{ng:R}:∀{A:dG},(∀S∈A,Jw P ng S)->Yl P ng (apv A)
 |[],_=>nofun
 |S::A,y=>λ f args H v h Bqq ρ w D s wf u=>by
  have F:=ahC λ S K=>y S (cV _ K)
  have h:vi _ _ _=O v:=h;cases e:gr _ f;.rw[e]at h;exact F f args H v h Bqq ρ w D s wf u
  rw[e]at h;have e:=beq_true e;cases J:JT S args H;.rw[J]at h;exact F f args H v h Bqq ρ w D s wf u
  rename_i M;rw[J]at h;obtain⟨h1⟩:=y S (dJ ..);grind[awv]
end
section
variable{a b:af8}
variable{P:aA}{ng n:R}{aae:bg}
theorem ax1:∀(m:R) (c:af8) (T:aM) (H:aj) (r:Jh),dE P ng aae n m c T H=O r->dE P ng aae n (m+1) c T H=O r:=by
 intro m;induction m with
 |zero=>intro c T H r h;cases h
 |succ m y=>
  intro c T H r h;cases c with
  |seq a b=>
   have h:andThen _ (dE P ng aae n m a T H)=O r:=h;show andThen _ (dE P ng aae n (m+1) a T H)=O r;cases u:dE P ng aae n m a T H;.rw[u]at h;cases h
   rename_i s;rw[u]at h;rw[y a T H s u];obtain⟨e,A,D⟩:=s;cases e with
   |normal=>exact y b A D r h
   |exit id=>exact h
   |ret=>exact h
  |cond x a b=>
   have h:oL (dE P ng aae n m a T H) (dE P ng aae n m b T H) _=O r:=h;show oL (dE P ng aae n (m+1) a T H) (dE P ng aae n (m+1) b T H) _=O r;unfold oL at h⊢;grind
  |block id a=>
   have h:nN id (dE P ng aae n m a T H)=O r:=h;show nN id (dE P ng aae n (m+1) a T H)=O r;cases u:dE P ng aae n m a T H;.rw[u]at h;cases h
   rename_i s;grind
  |loop a=>
   have h:andThen _ (dE P ng aae n m a T H)=O r:=h;show andThen _ (dE P ng aae n (m+1) a T H)=O r;cases u:dE P ng aae n m a T H;.rw[u]at h;cases h
   rename_i s;rw[u]at h;rw[y a T H s u];obtain⟨e,A,D⟩:=s;cases e with
   |normal=>exact y _ A D r h
   |exit id=>exact h
   |ret=>exact h
  |skip=>exact h
  |region id aag d=>exact h
  |exit id=>exact h
  |ret=>exact h
  |_=>cases h
theorem Dr(u:m<=k){c:af8}{T:aM}{H:aj}{r:Jh}(h:dE P ng aae n m c T H=O r):dE P ng aae n k c T H=O r:=by
 obtain⟨d,rfl⟩:=Oy u;clear u;induction d with
 |zero=>exact h
 |succ d y=>exact ax1 _ c T H r y
def bB(P:aA)(ng:R)(aae:bg)(n:R)(c:af8)(T:aM)(H:aj)(Qqq:nv):Prop:=∃m e T' H',dE P ng aae n m c T H=O (e,T',H')/\Qqq e T' H'
def afJ(P:aA)(ng:R)(aae:bg)(n:R)(b:af8)(Qqq:nv):oP->aM->aj->Prop
 |.normal,T,H=>bB P ng aae n b T H Qqq
 |e,T,H=>Qqq e T H
def aDX(id:R)(Qqq:nv):oP->aM->aj->Prop
 |.exit j,T,H=>if j=id then Qqq .normal T H else Qqq (.exit j) T H
 |e,T,H=>Qqq e T H
variable{T:aM}{H:aj}{Qqq:nv}
def bB.mono{c:af8}{Rqq:nv}(h:bB P ng aae n c T H Rqq)(k:∀e T H,Rqq e T H->Qqq e T H):bB P ng aae n c T H Qqq:=by obtain⟨m,e,T',H',h1,h2⟩:=h;exact⟨m,e,T',H',h1,k _ _ _ h2⟩
def fZ(h:Qqq .normal T H):bB P ng aae n .skip T H Qqq:=⟨1,_,_,_,Q,h⟩
def iZ(h:Qqq .ret T H):bB P ng aae n .ret T H Qqq:=⟨1,_,_,_,Q,h⟩
def mY{id:R}(h:Qqq (.exit id) T H):bB P ng aae n (.exit id) T H Qqq:=⟨1,_,_,_,Q,h⟩
theorem lR{id:R}{aag:dV}{d:mi}(h:kK P ng aae n aag T H d=O (T',H'))(u:Qqq .normal T' H'):bB P ng aae n (.region id aag d) T H Qqq:=⟨1,_,_,_,show rG _=_ by rw[h];rfl,u⟩
def aB(h:bB P ng aae n a T H (afJ P ng aae n b Qqq)):bB P ng aae n (.seq a b) T H Qqq:=by
 obtain⟨m,e,T',H',h1,h2⟩:=h;cases e with
 |normal=>
  obtain⟨k,e2,A,D,y,u⟩:=h2;refine⟨max m k+1,e2,A,D,?_,u⟩;show andThen _ (dE P ng aae n _ a T H)=_;exact(Dr (wU m k) h1)▸Dr (uK m k) y
 |exit id=>
  refine⟨m+1,_,_,_,?_,h2⟩;show andThen _ (dE P ng aae n m a T H)=_;rw[h1];rfl
 |ret=>
  refine⟨m+1,_,_,_,?_,h2⟩;show andThen _ (dE P ng aae n m a T H)=_;rw[h1];rfl
def Xy(h:bB P ng aae n a T H (afJ P ng aae n (.loop a) Qqq)):bB P ng aae n (.loop a) T H Qqq:=by
 obtain⟨m,e,T',H',h1,h2⟩:=h;cases e with
 |normal=>
  obtain⟨k,e2,A,D,y,u⟩:=h2;refine⟨max m k+1,e2,A,D,?_,u⟩;show andThen _ (dE P ng aae n _ a T H)=_;exact(Dr (wU m k) h1)▸Dr (uK m k) y
 |exit id=>
  refine⟨m+1,_,_,_,?_,h2⟩;show andThen _ (dE P ng aae n m a T H)=_;rw[h1];rfl
 |ret=>
  refine⟨m+1,_,_,_,?_,h2⟩;show andThen _ (dE P ng aae n m a T H)=_;rw[h1];rfl
theorem gR{id:R}(h:bB P ng aae n a T H (aDX id Qqq)):bB P ng aae n (.block id a) T H Qqq:=by
 obtain⟨m,e,T',H',h1,h2⟩:=h;cases e with
 |normal=>
  refine⟨m+1,.normal,T',H',?_,h2⟩;show nN id (dE P ng aae n m a T H)=_;rw[h1];rfl
 |ret=>
  refine⟨m+1,.ret,T',H',?_,h2⟩;show nN id (dE P ng aae n m a T H)=_;rw[h1];rfl
 |exit j=>
  have h2:if j=id then Qqq .normal T' H' else Qqq _ T' H':=h2;by_cases u:j=id;.rw[aY u]at h2;refine⟨m+1,.normal,T',H',?_,h2⟩;show nN id (dE P ng aae n m a T H)=_;grind[nN,abN]
  rw[aR u]at h2;refine⟨m+1,.exit j,T',H',?_,h2⟩;show nN id (dE P ng aae n m a T H)=_;grind[nN,beq_true]
def eX{x:eN}{v:mi}(hx:cy ng T x=O (.bool v))(u:v=V->bB P ng aae n a T H Qqq)(y:v=W->bB P ng aae n b T H Qqq):bB P ng aae n (.cond x a b) T H Qqq:=by
 cases v;.obtain⟨m,e,T',H',h1,h2⟩:=y Q;refine⟨m+1,e,T',H',?_,h2⟩;show oL _ _ _=_;exact hx▸h1
 obtain⟨m,e,T',H',h1,h2⟩:=u Q;refine⟨m+1,e,T',H',?_,h2⟩;show oL _ _ _=_;exact hx▸h1
def fp(P:aA)(ng:R)(aae:bg)(f:ck)(args:aF)(H:aj)(r:xe):Prop:=∃fn c m e T l,P.funcs[f]? =O fn/\fn.body=O c/\dE P ng aae (args.length+(fn.ntmps-args.length)) m c (eH args 0 .nil) H=O (e,T,r.2)/\(∀id,e≠.exit id)/\eG P r.2.ah.get T fn.results.toList=O l/\r.1=qc l
theorem fp.unique{f:ck}{H:aj}{s:xe}(h:fp P ng aae f args H r)(k:fp P ng aae f args H s):r=s:=by obtain⟨fn,c,m,e,T,l,h1,h2,y,_⟩:=h;obtain⟨A,F,u,D⟩:=k;have a:=Dr (wU m u) y;grind[Dr,Nat.le_max_right]
open Classical in
noncomputable def tI(P:aA)(ng:R)(base aae:bg):bg:=λ f args H=>
 match base f args H with
 |O r=>O r
 |X=>if h:∃r,fp P ng aae f args H r then O (Classical.choose h)else X
def ahj{base:bg}{f:ck}{H:aj}(h:base f args H=O r):tI P ng base aae f args H=O r:=by unfold tI;rw[h]
theorem Zl{base:bg}{f:ck}{H:aj}(h0:base f args H=X)(h:fp P ng aae f args H r):tI P ng base aae f args H=O r:=by unfold tI;have u:∃r,fp P ng aae f args H r:=⟨r,h⟩;grind[fp.unique]
theorem Te{base:bg}{f:ck}{H:aj}(h:tI P ng base aae f args H=O r):base f args H=O r\/fp P ng aae f args H r:=by
 unfold tI at h;split at h;.grind
 split at h;.grind
 cases h
def aod(u:ib aae){f:ck}{H:aj}(h:fp P ng aae f args H r):iM H r.2:=by obtain⟨fn,c,m,e,T,l,h1,h2,y,_⟩:=h;exact Dq u _ c _ H e T _ y
def asM{base:bg}(y:ib base)(u:ib aae):ib (tI P ng base aae):=λ f args H v H' h=>by
 rcases Te h with h|h
 .exact y f args H v H' h
 exact aod u h
def aaz(aa:jV P ng aae)(hg:ib aae)(Z:xW P){f:ck}{H:aj}{v:au}(h:fp P ng aae f args H (v,H')):∀Bqq ρ w Y,jU Bqq ng ρ H w->WF H->ll ρ H.ae H'.ae->dS ρ args Y->
 Calls P f ⟨Y⟩ w (λ e w'=>∃x ρ',e=.returned x/\bW ρ' v x/\cW Bqq ng H.ah.get H.ae H'.ae ρ w H'.ah.get H'.aV.get ρ' w'):=by
 intro Bqq ρ w Y s wf K D;obtain⟨fn,c,m,e,T,l,hf,hb,ac,ab,S,hv⟩:=h;obtain rfl:=hv;refine calls_of_wp hf hb ?_;rw[(show(⟨Y⟩:kA).size=args.length by simpa using(pY D))];refine(aG0 aa hg m).1 c _ H e T H' ac (Z f fn c hf hb) ρ _ w _ s wf K (afP D _) rfl ?_;intro a' w' ρ' hT hd hc;obtain⟨vs,u,N⟩:=Qp hc.cA hT S
 have M:bW ρ' (qc l) (abG vs):=by
  match l,u with
  |[],u=>obtain rfl:=pM.1 u;exact⟨[],rfl,rfl⟩
  |[x],u=>
   obtain⟨y,ys,rfl,hy,J⟩:=ep.1 u;obtain rfl:=pM.1 J;exact hy
  |x::y::l,u=>
   obtain⟨x',ys,rfl,hx,J⟩:=ep.1 u;obtain⟨y',zs,rfl,hy⟩:=ep.1 J;exact⟨_,rfl,u⟩
 have A:a'.defers=[]/\∃v,(results fn _).run P w'=.ok v w'/\∃x F,Ending.returned v=.returned x/\bW F _ x/\cW Bqq ng _ _ _ ρ w _ _ F w':=⟨hd,_,(ak0 N),_,ρ',rfl,M,hc⟩;cases e with
 |normal=>exact A
 |ret=>exact A
 |exit id=>exact akQ rfl (ab id)
def aHI{base:bg}(D:jV P ng base)(y:jV P ng aae)(A:ib aae)(u:xW P):jV P ng (tI P ng base aae):=λ f args H v H' h=>by
 rcases Te h with h|h
 .exact D f args H v H' h
 exact aaz y A u h
def lp{f:ck}{c:af8}{H:aj}{Rqq:au×aj->Prop}(u:P.funcs[f]? =O fn)(y:fn.body=O c)
 (h:bB P ng aae (args.length+(fn.ntmps-args.length)) c (eH args 0 .nil) H (λ e T H'=>(∀id,e≠.exit id)/\∃l,eG P H'.ah.get T fn.results.toList=O l/\Rqq (qc l,H'))):
 ∃r,fp P ng aae f args H r/\Rqq r:=by
 obtain⟨m,e,T',H',h1,h2,l,D,A⟩:=h;exact⟨_,⟨fn,c,m,e,T',l,u,y,h1,h2,D,Q⟩,A⟩
end
section
variable{P:aA}{ng n:R}{aae:bg}
def gH{H:aj}:gv P ng aae n aag [] T H=O (T,H):=rfl
theorem fR{H:aj}:gv P ng aae n aag (o::l) T H=
 if cn aag T o=V then(match bR P ng aae T H o.op with|some r=>gv P ng aae n aag l (dZ n T o.dst r.1) r.2|none=>X)else gv P ng aae n aag l (dZ n T o.dst (.tuple [])) H:=by
 show vi (motive:=λ _=>gw _) _ _ _=_;cases cn aag T o;.rfl
 .cases bR P ng aae T H _<;>rfl
def gG{aag:dV}{H:aj}:kK P ng aae n aag T H W=gv P ng aae n aag.toList aag.toList T H:=rfl
def cf(h:o.guard=X):cn aag T o=true:=by unfold cn;rw[h]
theorem aer(T:aM)(d:R)(v:au)(i:R):ai (dZ n T (O d) v) i=if d=i/\d<n then v else ai T i:=by grind[Tu,Fi,Tr.jg]
def fQ{t:R}:cy ng T (.tmp t)=O (ai T t):=rfl
def aIh(I:R->aM->aj->Prop)(k:R)(Qqq:nv):oP->aM->aj->Prop
 |.normal,T,H=>∃j,j<k/\I j T H
 |e,T,H=>Qqq e T H
def pq{a:af8}{Qqq:nv}(I:R->aM->aj->Prop)(step:∀k T H,I k T H->bB P ng aae n a T H (aIh I k Qqq)):∀(k:R) (T:aM) (H:aj),I k T H->bB P ng aae n (.loop a) T H Qqq:=by
 intro k;induction k using aw4 with
 |ind k y=>
  intro T H D;refine Xy ((step k T H D).mono λ e T' H' h=>?_);cases e with
  |normal=>obtain⟨j,A,u⟩:=h;exact y j A T' H' u
  |exit id=>exact h
  |ret=>exact h
end
section
variable{k:jT}{lo:R}{r:Row}{s:au}
variable{P:aA}{ng n:R}{aae:bg}
def sP(a:U):Prop:= -9223372036854775808<=a/\a<9223372036854775808
theorem FH(h:sP a):IntKind.wrap .i64 a=a:=by obtain⟨h1⟩:=h;have e:IntKind.wrap .i64 a=(if(V&&decide (a%18446744073709551616>=9223372036854775808))=V then a%18446744073709551616- 18446744073709551616 else a%18446744073709551616):=rfl;grind
def Ir(h:sP (a+b)):cY P .add t (.int .i64 a) (.int .i64 b)=O (.int .i64 (a+b)):=by show O _=_;rw[FH h]
theorem Uu:cY P .lss t (.int k a) (.int k b)=O (.bool (decide (a<b))):=by cases k<;>rfl
def aoP:cY P .leq t (.int k a) (.int k b)=O (.bool (decide (a<=b))):=by cases k<;>rfl
def ag6:cY P .gtr t (.int k a) (.int k b)=O (.bool (decide (a>b))):=by cases k<;>rfl
def aoi:cY P .geq t (.int k a) (.int k b)=O (.bool (decide (a>=b))):=by cases k<;>rfl
def alm:cY P .eql t (.int k a) (.int k b)=O (.bool (decide (a=b))):=by cases k<;>rfl
def aip:cY P .neq t (.int k a) (.int k b)=O (.bool (!decide (a=b))):=by cases k<;>rfl
structure Good (H:aj):Prop where
 wf:WF H
 aI:∀f mem u r,H.aV.get f=some mem->u∈mem->H.ah.get u=some r->r.aI=f
 mem:∀f mem,H.aV.get f=some mem->f<H.ae/\∀u∈mem,u<H.ae
structure Fr (fm:bA) (H H':aj):Prop where
 row:∀u r,H.ah.get u=some r->some r.aI≠fm->H'.ah.get u=some r
 aV:∀f mem,H.aV.get f=some mem->some f≠fm->H'.aV.get f=some mem
 ae:H.ae<=H'.ae
theorem Fr.refl(fm:bA)(H:aj):Fr fm H H:=⟨λ _ _ h _=>h,λ _ _ h _=>h,aZ _⟩
theorem Fr.trans{A Bqq C:aj}(h:Fr fm A Bqq)(k:Fr fm Bqq C):Fr fm A C:=⟨λ u r e ne=>k.row u r (h.row u r e ne) ne,λ f m e ne=>k.aV f m (h.aV f m e ne) ne,fI h.ae k.ae⟩
def Fr.any{H:aj}(h:Fr apq H H'):Fr fm H H':=⟨λ u r e _=>h.row u r e aw,λ f m e _=>h.aV f m e aw,h.ae⟩
def Fr.fresh{f:R}{H:aj}(h:Fr (O f) H H')(g:Good H)(y:H.ae<=f):Fr X H H':=⟨λ u r e _=>h.row u r e (by have:=(g.wf u r e).2;simp;omega),λ k m e _=>h.aV k m e (by have:=(g.mem k m e).1;simp;omega),h.ae⟩
structure qJ (H:aj) (v:R) (r:Row):Prop where
 row:H.ah.get v=some r
 ro:r.ro=false
 mem:∃mem,H.aV.get r.aI=some mem
def qJ.keep{H:aj}(h:qJ H v r)(k:Fr fm H H')(ne:O r.aI≠fm):qJ H' v r:=⟨k.row v r h.row ne,h.ro,let⟨m,e⟩:=h.mem;⟨m,k.aV _ _ e ne⟩⟩
theorem jb{H:aj}(g:Good H)(cells:aF)(exact:mi)(sz:R):Good (alloc H cells exact sz):=by
 refine⟨λ v r h=>?_,λ f mem u r h1 h2 y=>?_,λ f mem h=>?_⟩
 .simp[alloc]at h⊢;rw[Tr.jg]at h;split at h;.grind
  have:=g.wf v r h;omega
 .rw[alloc,Tr.jg]at h1 y;split at h1;.grind
  have hm:=(g.mem f mem h1).2 u h2;rw[aR aa]at y;exact g.aI f mem u r h1 h2 y
 rw[alloc]at h⊢;rw[Tr.jg]at h;split at h;.grind
 obtain⟨h1⟩:=g.mem f mem h;grind
theorem iv{H:aj}(g:Good H)(cells:aF)(exact:mi)(sz:R):Fr X H (alloc H cells exact sz):=by
 refine⟨λ u r h _=>?_,λ f mem h _=>?_,by simp[alloc]⟩;.have:=(g.wf u r h).1;grind[alloc,Tr.uW]
 have:=(g.mem f mem h).1;grind[alloc,Tr.uW]
theorem PH(h:p:=by grind[alloc,Tr.tA]):p:=h
def mK(H:aj)(cells:aF)(exact:mi)(sz:R):qJ (alloc H cells exact sz) H.ae ⟨cells,H.ae,0,exact,W,sz⟩:=⟨PH,Q,⟨[H.ae],PH⟩⟩
theorem Gb{y:R}:∀(mem:bG) (ah:kH) (u:R),u∉mem->(oq ah v lo y mem).get u=ah.get u
 |[],_,_,_=>rfl
 |a::mem,ah,u,h=>by
  simp at h;rw[oq];split;.exact Gb mem ah u h.2
  split;.exact Gb mem ah u h.2
  split;.rw[Gb mem _ u h.2,Tr.uW _ (λ e=>h.1 e.symm)]
  exact Gb mem ah u h.2
theorem Lv:∀(mem:bG) (ah:kH) (u:R),u∉mem->(tK ah lo mem).get u=ah.get u
 |[],_,_,_=>rfl
 |a::mem,ah,u,h=>by
  simp at h;rw[tK];split;.exact Lv mem ah u h.2
  split;.exact Lv mem ah u h.2
  rw[Lv mem _ u h.2,Tr.uW _ (λ e=>h.1 e.symm)]
theorem nK{H:aj}(g:Good H)(o:qJ H v r){new:aF}(K:off+new.length<=r.cells.length)(J:new.all au.dm=V):
 ∃H',write H v off new=O H'/\qJ H' v {r with cells:=eV r.cells off new}/\Fr (O r.aI) H H'/\H'.ae=H.ae/\Good H':=by
 obtain⟨y,F,mem,A⟩:=o;refine⟨{H with ah:=(oq H.ah v (r.start+off) (r.start+off+new.length) mem).set v _},by grind[write,hP],⟨Tr.tA _ _ _,F,⟨mem,A⟩⟩,⟨λ u ru hu ne=>?_,λ f m M _=>M,aZ _⟩,Q,⟨λ u ru hu=>?_,λ f m u ru h1 h2 D=>?_,g.mem⟩⟩
 .rw[Tr.uW _ bP,Gb mem _ u ?_];.exact hu
  exact λ hm=>ne (by rw[g.aI _ _ _ _ A hm hu])
 .rw[Tr.jg]at hu;split at hu;.rename_i e;subst e;cases hu;exact g.wf v r y
  exact g.wf u ru (AL mem _ u ru hu).1
 .rw[Tr.jg]at D;split at D;.rename_i e;subst e;cases D;exact g.aI f m v r h1 h2 y
  exact g.aI _ _ _ _ h1 h2 (AL mem _ u ru D).1
def cm(H:aj)(sz n:R)(s:au)(cs:aF)(fm:bA):Prop:=cs.length=n*sz/\((s=.aq/\n=0/\fm=X)\/∃v r,s=.slice v 0 n X/\qJ H v r/\r.sz=sz/\n*sz<=r.cells.length/\r.cells.take (n*sz)=cs/\fm=O r.aI)
theorem cm.keep{H:aj}{n:R}{y:bA}(h:cm H sz n s cs fm)(k:Fr y H H')(ne:fm=X\/fm≠y):cm H' sz n s cs fm:=by
 obtain⟨h1,h2|⟨v,r,rfl,o,u,D,A,rfl⟩⟩:=h;.exact⟨h1,.inl h2⟩
 refine⟨h1,.inr ⟨v,r,Q,o.keep k ?_,u,D,A,Q⟩⟩;grind
theorem cm.lenOf{H:aj}{n:R}(h:cm H sz n s cs fm):lenOf s=O n:=by obtain⟨h1,⟨rfl,rfl,_⟩|⟨v,r,rfl,_⟩⟩:=h<;>rfl
theorem cm.cells{H:aj}{n:R}(h:cm H sz n s cs fm):er H.ah.get sz n s=O cs:=by
 obtain⟨h1,⟨rfl,rfl,_⟩|⟨v,r,rfl,o,u⟩⟩:=h;.obtain rfl:=mF (by simpa using h1);rfl
 rw[er,aQ,o.row];grind[hP]
theorem Pb{a b:R}(h:b<a):th a b=false:=by
 cases e:th a b;.rfl
 have:=iT e;omega
theorem yp{H:aj}(g:Good H){bytes n k:R}{new:aF}(af:0<sz)(h:cm H sz n s cs fm)(A:new.length=k*sz)(M:new.all au.dm=V)
 (hb:(n+k)*bytes<=lg) (an:n+k<=lg):
 ∃s' H' J,gM H sz bytes s k new=O (s',H')/\cm H' sz (n+k) s' (cs++new) J/\Fr fm H H'/\Good H'/\(J=fm\/∃f,H.ae<=f/\J=O f):=by
 have Z:=h.cells;have Y:=h.lenOf;obtain⟨h1,⟨rfl,rfl,rfl⟩|⟨v,r,rfl,o,K,hl,ht,rfl⟩⟩:=h
 ·
  obtain rfl:=mF (by simpa using h1);cases k;.obtain rfl:=mF (by simpa using A);exact⟨.aq,H,X,rfl,⟨aw,.inl ⟨rfl,rfl,rfl⟩⟩,Fr.refl _ _,g,.inl rfl⟩
  rename_i k;refine⟨.slice H.ae 0 (k+1) X,alloc H new W sz,O H.ae,?_,⟨by simpa using A,.inr ⟨H.ae,_,aw,mK H new W sz,rfl,by simp[A],bP,rfl⟩⟩,iv g new W sz,jb g new W sz,.inr ⟨H.ae,aZ _,rfl⟩⟩;grind[gM,jy,Pb,hP]
 .have ai:jy H.ah.get sz (.slice v 0 n X)=O (r.exact,r.cells.length/sz):=by simp only[jy,o.row,K,qi];grind[hP]
  by_cases P:n+k<=r.cells.length/sz
  ·
   have ac:(n+k)*sz<=r.cells.length:=by have:=uI sz P;have:=Nat.div_mul_le_self r.cells.length sz;omega
   have N:=qO n k sz;obtain⟨H',hw,ab,D,hn,g'⟩:=nK g o (off:=n*sz) (new:=new) aa M;refine⟨.slice v 0 (n+k) X,H',O r.aI,?_,⟨by simp[h1,A,N],.inr ⟨v,_,rfl,ab,K,?_,?_,rfl⟩⟩,D,g',.inl rfl⟩;.grind[gM,hP]
   .grind[N2]
   grind[eV]
  by_cases am:r.exact=V
  ·
   refine⟨.slice H.ae 0 (n+k) X,alloc H (cs++new) W sz,O H.ae,?_,⟨by simp[h1,A,qO],.inr ⟨H.ae,_,rfl,mK H _ W sz,rfl,by simp[h1,A,qO],?_,rfl⟩⟩,(iv g _ W sz).any,jb g _ W sz,.inr ⟨H.ae,aZ _,rfl⟩⟩;.grind[gM,Pb,hP]
   grind[ang]
  obtain⟨ag,ak,mem,y⟩:=o
  let r':Row:={cells:=cs++new,aI:=r.aI,start:=r.start,exact:=W,ro:=W,sz:=sz}
  let H':aj:={ah:=(tK H.ah (r.start+n*sz) mem).set H.ae (O r'),aV:=H.aV.set r.aI (O (H.ae::mem)),ae:=H.ae+1}
  refine⟨.slice H.ae 0 (n+k) X,H',O r.aI,?_,⟨by simp[h1,A,qO],.inr ⟨H.ae,r',rfl,⟨Tr.tA _ _ _,rfl,⟨H.ae::mem,Tr.tA _ _ _⟩⟩,rfl,bP,?_,rfl⟩⟩,⟨λ u ru hu ne=>?_,λ f m D ne=>?_,by simp[H']⟩,⟨λ u ru hu=>?_,λ f m u ru h2 F S=>?_,λ f m D=>?_⟩,.inl rfl⟩;.grind[gM,Pb,hP]
  .grind[ang]
  .have al:=(g.wf u ru hu).1;rw[Tr.uW _ aa,Lv mem _ u ?_];.exact hu
   intro hm;have:=g.aI _ _ _ _ y hm hu;exact ne (by rw[this])
  .grind[Tr.uW]
  .simp only[H']at hu⊢;rw[Tr.jg]at hu;split at hu;.rename_i e;cases hu;have:=(g.mem _ _ y).1;simp only[r'];omega
   have:=g.wf u ru (yE mem _ u ru hu).1;omega
  .rw[Tr.jg]at h2 S;split at h2
   .rename_i e;cases h2;split at S;.grind
    have ad:=(yE mem _ u ru S).1;rcases cg.1 F with rfl|F
    .grind
    rw[<-e];exact g.aI _ _ _ _ y F ad
   have hm:=(g.mem f m h2).2 u F;rw[aR aa]at S;exact g.aI _ _ _ _ h2 F (yE mem _ u ru S).1
  rw[Tr.jg]at D;split at D;.rename_i e;cases D;obtain⟨h2,F⟩:=g.mem _ _ y;grind
  obtain⟨h2,F⟩:=g.mem f m D;grind
end
section
variable{e:bj}{s:au}
variable{P:aA}{ng n:R}{aae:bg}
def jX(g:fE)(sz n:R)(s:au)(cs:aF):Prop:=cs.length=n*sz/\((n=0/\(s=.aq\/s=.eY))\/∃v off lim r,s=.slice v off n lim/\g v=O r/\off+n*sz<=r.cells.length/\(r.cells.drop off).take (n*sz)=cs)
def cm.nQ{H:aj}{n:R}(h:cm H sz n s cs fm)(k:Fr apq H H'):cm H' sz n s cs fm:=h.keep k (by cases fm<;>simp)
def cm.read{H:aj}{n:R}(h:cm H sz n s cs fm):jX H.ah.get sz n s cs:=by
 obtain⟨h1,⟨rfl,rfl,_⟩|⟨v,r,rfl,o,y,A,u,rfl⟩⟩:=h;.exact⟨h1,.inl ⟨Q,.inl Q⟩⟩
 exact⟨h1,.inr ⟨v,0,X,r,Q,o.row,aa,by simpa using u⟩⟩
theorem jX.lenOf{n:R}(h:jX g sz n s cs):lenOf s=O n:=by obtain⟨h1,⟨rfl,rfl|rfl⟩|⟨v,off,lim,r,rfl,_⟩⟩:=h<;>rfl
theorem jX.cells{n:R}(h:jX g sz n s cs):er g sz n s=O cs:=by
 obtain⟨h1,⟨rfl,rfl|rfl⟩|⟨v,off,lim,r,rfl,u⟩⟩:=h;.obtain rfl:=mF (by simpa using h1);rfl
 .obtain rfl:=mF (by simpa using h1);rfl
 grind[er,hP,aQ]
def jX.dh{n:R}(h:jX g sz n s cs)(u:P.underlying t=O (.slice e)):dh P t s=O (.int .i64 (.ofNat n)):=by obtain⟨h1,⟨rfl,rfl|rfl⟩|⟨v,off,lim,r,rfl,_⟩⟩:=h<;>simp[Abs.dh,u]
theorem jX.index{n:R}(h:jX g sz n s cs)(F:i<n){j:TypeInfo}(y:P.underlying t=O (.slice e))(D:P.info? e=O j)(u:j.size=sz):
 ∃v off,(∀k,iL P t s (.int k (.ofNat i))=O (.ptr v off))/\aQ g v off sz=O ((cs.drop (i*sz)).take sz)/\∀c x,c<sz->cs[i*sz+c]? =O x->aQ g v (off+c) 1=O [x]:=by
 obtain⟨h1,⟨rfl,_⟩|⟨v,off,lim,r,rfl,J⟩⟩:=h;.omega
 .have A:i*sz+sz<=n*sz:=by have:=uI sz (aa:i+1<=n);grind
  refine⟨v,off+i*sz,λ k=>?_,by grind[aQ,hP,List.drop_take,List.drop_drop],λ c x K hx=>?_⟩;.simp[iL,y,D,cD F,u]
  grind[aQ,hP,List.drop_eq_getElem_cons]
def jX.keep{H:aj}{n:R}(h:jX H.ah.get sz n s cs)(k:Fr apq H H'):jX H'.ah.get sz n s cs:=by
 obtain⟨h1,h2|⟨v,off,lim,r,rfl,y,A,u⟩⟩:=h;.exact⟨h1,.inl h2⟩
 exact⟨h1,.inr ⟨v,off,lim,r,Q,k.row v r y aw,A,u⟩⟩
mutual
theorem JK:∀(a:au),gQ a a=V
 |.bool b=>by simp[gQ]
 |.int _ _=>by simp[gQ]
 |.str _=>by simp[gQ]
 |.fq=>by simp[gQ]
 |.ptr _ _=>by simp[gQ]
 |.aq=>by simp[gQ]
 |.slice _ _ _ _=>by simp[gQ]
 |.eY=>by simp[gQ]
 |.nilFunc=>by simp[gQ]
 |.iface=>by simp[gQ]
 |.func _ a b=>by simp[gQ,Nj a,Nj b]
 |.agg a=>by simp[gQ,Nj a]
 |.tuple a=>by simp[gQ,Nj a]
theorem Nj:∀(aah:B au),wc aah aah=V
 |[]=>by simp[wc]
 |a::aah=>by simp[wc,JK a,Nj aah]
end
def BM{H:aj}:kx P ng aae n aag bef (o::l) i S T H=
 if cn aag T o=V then(match bR P ng aae T H o.op with
  |some r=>(match jt (bef i) i T o.op S r with|some u=>kx P ng aae n aag bef l (i+1) u (dZ n T o.dst r.1) r.2|none=>X)
  |none=>X)else kx P ng aae n aag bef l (i+1) S (dZ n T o.dst (.tuple [])) H:=by
 show vi (motive:=λ _=>gw _) _ _ _=_;cases cn aag T o;.rfl
 .cases bR P ng aae T H _;.rfl
  rename_i r;simp;cases jt _ i T _ S r<;>rfl
def LC(l:dM):Bool:=l.all (λ o=>match dK o.op with|0=>V|1=>V|_=>W)
theorem MH{r:R×aM×Op×au}{rs:HM}:wK P ng bef objs0 es (r::rs)=(uE P ng bef objs0 r.1 r.2.1 r.2.2.1 r.2.2.2 es X&&wK P ng bef objs0 es rs):=rfl
theorem RN:∀{l:dM} {i:R} {rs:HM} {T:aM} {H:aj} {T':aM} {H':aj},LC l=V->
 gv P ng aae n aag l T H=O (T',H')->wK P ng bef H.ah [] rs=V->
 H'=H/\∃y,kx P ng aae n aag bef l i ⟨[],[],rs⟩ T H=O (⟨[],[],y⟩,T',H')/\wK P ng bef H.ah [] y=V
 |[],i,rs,T,H,T',H',_,h,A=>by cases h;exact⟨Q,rs,Q,A⟩
 |o::l,i,rs,T,H,T',H',J,h,A=>by
  rw[LC,ny,bq]at J;rw[fR]at h;rw[BM];split at h
  .rename_i K;rw[aY K];cases u:bR P ng aae T H _;.rw[u]at h;cases h
   rename_i r;rw[u]at h;simp at h;have M:dK o.op=0\/dK o.op=1:=by grind
   rcases M with F|F
   .have N:r.2=H:=by
     rw[(show bR P ng aae T H _=iG H _ by unfold bR;rw[F];rfl)]at u;cases D:nU P ng T _;.rw[D]at u;cases u
     rename_i v;rw[D]at u;cases u;rfl
    simp[(show jt _ i T _ _ r=O _ by unfold jt;rw[F];rfl)];rw[N]at h⊢;exact RN J.2 h A
   have N:r.2=H/\dY P ng T H.ah.get o.op=O r.1:=by
    rw[(show bR P ng aae T H _=iG H _ by unfold bR;rw[F];rfl)]at u;cases D:dY P ng T _ _;.rw[D]at u;cases u
    rename_i v;rw[D]at u;cases u;exact⟨Q,Q⟩
   simp[(show jt _ i T _ _ r=O _ by unfold jt;rw[F];rfl)];rw[N.1]at h⊢;refine RN J.2 h ?_;rw[MH,bq];refine⟨?_,A⟩;show(W||mX P ng T _ _ _)=V;grind[mX,JK]
  rename_i K;rw[aR K];exact RN J.2 h A
theorem axM{aag:dV}{H:aj}(u:LC aag.toList=V)(h:kK P ng aae n aag T H W=O (T',H')):kK P ng aae n aag T H V=O (T',H'):=by obtain⟨rfl⟩:=RN (bef:=eA aag) (i:=0) (rs:=[]) u h Q;refine Mk ?_;grind[pQ]
end
section
variable{b:R}{o:Op}
variable{P:aA}{ng n:R}{aae:bg}
def tW{bef:R}:∀{l:bG},qw bef l=V↔∀a∈l,tb bef a=V
 |[]=>by simp;rfl
 |a::l=>by
  show vi W (qw bef l) _=V↔_;rw[List.forall_mem_cons];cases h:tb bef a;.simp
  simpa using tW
structure Rec where
 es:B kH
 rs:B (aM×Op×au)
def Na(o:Op):dK o=0\/dK o=1\/dK o=2\/dK o=3:=by unfold dK;split<;>simp
def acO(h:dK o=0):jt b i T o S r=O S:=by unfold jt;rw[h];rfl
def aci(h:dK o=1):jt b i T o S r=O (wX i T o S r.1):=by unfold jt;rw[h];rfl
theorem Uh(h:dK o=3)(u:qw b S.bM=V):jt b i T o S r=O (D2 i S r.2):=by grind[jt]
end
section
variable{b:mi}
variable{P:aA}{ng n:R}{aae:bg}
theorem fC{H:aj}(u:cn aag T o=V)(y:bR P ng aae T H o.op=O r)
 (h:∃T',gv P ng aae n aag l (dZ n T o.dst r.1) r.2=O (T',H')/\Rqq T'):∃T',gv P ng aae n aag (o::l) T H=O (T',H')/\Rqq T':=by
 grind[fR]
theorem alb{H:aj}(u:cn aag T o=W)
 (h:∃T',gv P ng aae n aag l (dZ n T o.dst (.tuple [])) H=O (T',H')/\Rqq T'):∃T',gv P ng aae n aag (o::l) T H=O (T',H')/\Rqq T':=by
 grind[fR]
theorem DD(y:o.guard=O (j,want))(u:aag[j]? =O oj)(A:oj.dst=O d)(D:ai T d=.bool b):cn aag T o=(b==want):=by grind[cn]
def amo{H:aj}(D:o.guard=O (j,want))(A:aag[j]? =O oj)(F:oj.dst=O d)(u:(b==want)=V)(J:ai T d=.bool b)
 (y:bR P ng aae T H o.op=O r) (h:∃T',gv P ng aae n aag l (dZ n T o.dst r.1) r.2=O (T',H')/\Rqq T'):∃T',gv P ng aae n aag (o::l) T H=O (T',H')/\Rqq T':=
 fC ((DD D A F J).trans u) y h
def Wp{H:aj}(A:o.guard=O (j,want))(y:aag[j]? =O oj)(D:oj.dst=O d)(u:(b==want)=W)(F:ai T d=.bool b)
 (h:∃T',gv P ng aae n aag l (dZ n T o.dst (.tuple [])) H=O (T',H')/\Rqq T'):∃T',gv P ng aae n aag (o::l) T H=O (T',H')/\Rqq T':=
 alb ((DD A y D F).trans u) h
def fX{H:aj}(h:Rqq T):∃T',gv P ng aae n aag [] T H=O (T',H)/\Rqq T':=⟨T,Q,h⟩
def ee(l:dM)(t:R):Bool:=List.rec (motive:=λ _=>Bool) V (λ o _ u=>(match o.dst with|O d=> !(gr d t)|X=>V)&&u) l
theorem ajp{d:fV}{v:au}{t:R}(h:(match d with|some d=> !(gr d t)|none=>V)=V):ai (dZ n T d v) t=ai T t:=by
 cases d;.rfl
 rename_i d;grind[aer,abN]
theorem DY:∀{l:dM} {T T':aM} {H H':aj},gv P ng aae n aag l T H=O (T',H')->∀t,ee l t=true->ai T' t=ai T t
 |[],T,T',H,H',h,t,_=>by cases h;rfl
 |o::l,T,T',H,H',h,t,u=>by
  have u:((match o.dst with|some d=> !(gr d t)|none=>true)&&ee l t)=true:=u;rw[bq]at u;rw[fR]at h;split at h
  .split at h;.rw[DY h t u.2,ajp u.1]
   cases h
  rw[DY h t u.2,ajp u.1]
def iK{H:aj}{Qqq:nv}{id:R}{aag:dV}(Rqq:Ju)(h:∃T',gv P ng aae n aag.toList aag.toList T H=O (T',H')/\Rqq T')(u:∀T',Rqq T'->(∀t,ee aag.toList t=V->ai T' t=ai T t)->Qqq .normal T' H'):bB P ng aae n (.region id aag W) T H Qqq:=by obtain⟨T',h1,h2⟩:=h;exact lR h1 (u T' h2 (DY h1))
def aJc{H:aj}{Qqq:nv}{id:R}{aag:dV}(Rqq:Ju)(u:LC aag.toList=V)(h:∃T',gv P ng aae n aag.toList aag.toList T H=O (T',H')/\Rqq T')(y:∀T',Rqq T'->(∀t,ee aag.toList t=V->ai T' t=ai T t)->Qqq .normal T' H'):bB P ng aae n (.region id aag V) T H Qqq:=by obtain⟨T',h1,h2⟩:=h;exact lR (axM u h1) (y T' h2 (DY h1))
end
def AA:
 (∀{P:aA} {A:R} {aae:bg} {T:aM} {H:aj} {x:eN},bR P A aae T H (.move x)=iG H (cy A T x))/\
 (∀{P:aA} {A:R} {aae:bg} {T:aM} {H:aj} {x:eN},bR P A aae T H (.assign x)=iG H (cy A T x))/\
 (∀{P:aA} {A:R} {aae:bg} {T:aM} {H:aj} {c a b:eN},bR P A aae T H (.pick c a b)=iG H (BE (cy A T c) (cy A T a) (cy A T b)))/\
 (∀{P:aA} {A:R} {aae:bg} {T:aM} {H:aj} {t:bj} {D:abB (R×eN)},bR P A aae T H (.build t D)=iG H (mc P t (qA A T D.toList)))/\
 (∀{P:aA} {A:R} {aae:bg} {T:aM} {H:aj} {x:eN},bR P A aae T H (.nilCheck x)=iG H (Bt (cy A T x)))/\
 (∀{P:aA} {A:R} {aae:bg} {T:aM} {H:aj} {o:BinOp} {t u:bj} {x y:eN},bR P A aae T H (.binOp o t x y u)=iG H (DA P o t (cy A T x) (cy A T y)))/\
 (∀{P:aA} {A:R} {aae:bg} {T:aM} {H:aj} {o:UnOp} {t:bj} {x:eN},bR P A aae T H (.unOp o t x)=iG H (D4 o (cy A T x)))/\
 (∀{P:aA} {A:R} {aae:bg} {T:aM} {H:aj} {s d:bj} {x:eN},bR P A aae T H (.convert s d x)=iG H (sH P s d (cy A T x)))/\
 (∀{P:aA} {A:R} {aae:bg} {T:aM} {H:aj} {f:ck} {a b:abB eN},bR P A aae T H (.makeFunc (.func f) a b)=iG H (Gp f (ni A T a.toList) (ni A T b.toList)))/\
 (∀{P:aA} {A:R} {aae:bg} {T:aM} {H:aj} {s:bj} {x:eN} {f:R},bR P A aae T H (.fieldAddr s x f)=iG H (Dk P s f (cy A T x)))/\
 (∀{P:aA} {A:R} {aae:bg} {T:aM} {H:aj} {t:bj} {x i:eN},bR P A aae T H (.indexAddr t x i)=iG H (DI P t (cy A T x) (cy A T i)))/\
 (∀{P:aA} {A:R} {aae:bg} {T:aM} {H:aj} {t:bj} {x i:eN},bR P A aae T H (.index t x i)=iG H (D9 P t (cy A T x) (cy A T i)))/\
 (∀{P:aA} {A:R} {aae:bg} {T:aM} {H:aj} {x:eN} {i:R},bR P A aae T H (.extract x i)=iG H (CU i (cy A T x)))/\
 (∀{P:aA} {A:R} {aae:bg} {T:aM} {H:aj} {t:bj} {x:eN},bR P A aae T H (.load t x)=iG H (wk P H.ah.get t (cy A T x)))/\
 (∀{P:aA} {A:R} {aae:bg} {T:aM} {H:aj} {t:bj} {x:eN} {lo K mx:AR},bR P A aae T H (.slice t x lo K mx)=iG H (xn P H.ah.get t (cy A T x) (vg A T lo) (vg A T K) mx))/\
 (∀{P:aA} {A:R} {aae:bg} {T:aM} {H:aj} {t:bj},bR P A aae T H (.alloc t)=sy H (vW (fW P t)))/\
 (∀{P:aA} {A:R} {aae:bg} {T:aM} {H:aj} {t:bj} {x:eN},bR P A aae T H (.box t x)=sy H (vW (cy A T x)))/\
 (∀{P:aA} {A:R} {aae:bg} {T:aM} {H:aj} {t:bj} {k:R} {D:abB (R×eN)},bR P A aae T H (.buildSlice t k D)=sy H (oW P t k (qA A T D.toList)))/\
 (∀{P:aA} {A:R} {aae:bg} {T:aM} {H:aj} {t:bj} {l c:eN},bR P A aae T H (.makeSlice t l c)=sy H (wu P t (cy A T l) (cy A T c)))/\
 (∀{P:aA} {A:R} {aae:bg} {T:aM} {H:aj} {t:bj} {a x:eN},bR P A aae T H (.store t a x)=xG P H t (cy A T a) (cy A T x))/\
 (∀{P:aA} {A:R} {aae:bg} {T:aM} {H:aj} {x:eN} {t:bj},bR P A aae T H (.call {callee:=.builtin .len,args:= #[x],argTypes:= #[t]})=iG H (match cy A T x with|O a=>dh P t a|X=>X))/\
 (∀{P:aA} {A:R} {aae:bg} {T:aM} {H:aj} {x:eN} {t:bj},bR P A aae T H (.call {callee:=.builtin .cap,args:= #[x],argTypes:= #[t]})=iG H (match cy A T x with|O a=>Dy P H.ah.get t a|X=>X))/\
 (∀{P:aA} {A:R} {aae:bg} {T:aM} {H:aj} {a:abB eN} {t:abB bj},bR P A aae T H (.call {callee:=.builtin .append,args:=a,argTypes:=t})=Bj P H t.toList (ni A T a.toList))/\
 (∀{P:aA} {A:R} {aae:bg} {T:aM} {H:aj} {f:eN} {a:abB eN} {t:abB bj},bR P A aae T H (.call {callee:=.value f,args:=a,argTypes:=t})=ud P aae H (cy A T f) (ni A T a.toList))/\
 (∀{H:aj} {v:au},iG H (O v)=O (v,H))/\
 (∀{A:R} {T:aM} {t:R},cy A T (.tmp t)=O (ai T t))/\
 (∀{A:R} {T:aM} {v:ye},cy A T (.const v)=ofValue v)/\
 (∀{A:R} {T:aM} {f:ck},cy A T (.func f)=O (.func f [] []))/\
 (∀{k:jT} {a:U},ofValue (.int k a)=O (.int k a))/\
 (∀{b:mi},ofValue (.bool b)=O (.bool b))/\
 (ofValue (.slice X 0 0)=O .aq)/\
 (∀{s:ByteArray},ofValue (.string s)=O (.str s.data.toList))/\
 (∀{n:R} {T:aM} {d:R} {v:au} {i:R},ai (dZ n T (O d) v) i=if d=i/\d<n then v else ai T i)/\
 (∀{n:R} {T:aM} {v:au},dZ n T X v=T)/\
 (∀{A:R} {T:aM},ni A T []=O [])/\
 (∀{A:R} {T:aM} {x:eN} {l:uF},ni A T (x::l)=Az (cy A T x) (ni A T l))/\
 (∀{a:au} {l:aF},Az (O a) (O l)=O (a::l))/\
 (∀{A:R} {T:aM},qA A T []=O [])/\
 (∀{A:R} {T:aM} {i:R} {x:eN} {l:rK},qA A T ((i,x)::l)=match cy A T x,qA A T l with|O a,O l=>O ((i,a)::l)|_,_=>X)/\
 (∀{A:R} {T:aM},vg A T X=O X)/\
 (∀{A:R} {T:aM} {x:eN},vg A T (O x)=match cy A T x with|O a=>O (O a)|X=>X)/\
 (∀{x y:au},BE (O (.bool V)) (O x) (O y)=O x)/\
 (∀{x y:au},BE (O (.bool W)) (O x) (O y)=O y)/\
 (∀{P:aA} {o:BinOp} {t:bj} {a b:au},DA P o t (O a) (O b)=cY P o t a b)/\
 (∀{o:UnOp} {a:au},D4 o (O a)=JX o a)/\
 (∀{P:aA} {s:bj} {f:R} {a:au},Dk P s f (O a)=fO P s a f)/\
 (∀{P:aA} {t:bj} {a b:au},DI P t (O a) (O b)=iL P t a b)/\
 (∀{P:aA} {t:bj} {a b:au},D9 P t (O a) (O b)=uw P t a b)/\
 (∀{i:R} {F:aF},CU i (O (.tuple F))=F[i]?)/\
 (∀{P:aA} {g:fE} {t:bj} {a:au},wk P g t (O a)=cr P g t a)/\
 (∀{P:aA} {g:fE} {t:bj} {a:au} {l h:cR},xn P g t (O a) (O l) (O h) X=kU P g t a l h)/\
 (∀{a:au},vW (O a)=O (a.cells,1,X))/\
 (∀{H:aj} {cs:aF} {sz:R} {k:bA},sy H (O (cs,sz,k))=O (yu H.ae k,alloc H cs V sz))/\
 (∀{i:R},yu i X=.ptr i 0)/\
 (∀{i k:R},yu i (O k)=.slice i 0 k X)/\
 (∀{P:aA} {H:aj} {t:bj} {p v:au},xG P H t (O p) (O v)=match dD P H t p v with|O H'=>O (.tuple [],H')|X=>X)/\
 (∀{P:aA} {aae:bg} {H:aj} {g:ck} {a b l:aF},ud P aae H (O (.func g a b)) (O l)=eL P aae g (a++l++b) H)/\
 (∀{P:aA} {H:aj} {J:xC} {l:aF},Bj P H J (O l)=iC P H J l)/\
 (∀{a b:aF} {f:ck},Gp f (O a) (O b)=O (.func f a b))/\
 (∀{v o:R},Bt (O (.ptr v o))=O (.ptr v o))/\
 (∀{f:ck} {a b:aF},Bt (O (.func f a b))=O (.func f a b))/\
 (∀{P:aA} {t:bj} {k:jT} {a b:U},cY P .lss t (.int k a) (.int k b)=O (.bool (decide (a<b))))/\
 (∀{P:aA} {t:bj} {k:jT} {a b:U},cY P .leq t (.int k a) (.int k b)=O (.bool (decide (a<=b))))/\
 (∀{P:aA} {t:bj} {k:jT} {a b:U},cY P .gtr t (.int k a) (.int k b)=O (.bool (decide (a>b))))/\
 (∀{P:aA} {t:bj} {k:jT} {a b:U},cY P .geq t (.int k a) (.int k b)=O (.bool (decide (a>=b))))/\
 (∀{P:aA} {t:bj} {k:jT} {a b:U},cY P .eql t (.int k a) (.int k b)=O (.bool (decide (a=b))))/\
 (∀{P:aA} {t:bj} {k:jT} {a b:U},cY P .neq t (.int k a) (.int k b)=O (.bool (!decide (a=b))))/\
 (∀{b:mi},JX .not (.bool b)=O (.bool !b)):=
 ⟨Q,Q,Q,Q,Q,Q,Q,Q,Q,Q,Q,Q,Q,Q,Q,Q,Q,Q,Q,Q,Q,Q,Q,Q,Q,Q,Q,Q,Q,Q,Q,Q,λ {_ _ _ _ _}=>aer _ _ _ _,Q,Q,Q,Q,Q,Q,Q,Q,Q,Q,Q,Q,Q,Q,Q,Q,Q,Q,Q,Q,Q,Q,Q,Q,Q,Q,Q,Q,Uu,aoP,ag6,aoi,alm,aip,Q⟩
def vb:au->mi->mi
 |.bool b,w=>b==w
 |_,_=>W
def stp(w:mi)(x:kO)(H:aj):kO:=match w with
 |V=>x
 |W=>O (.tuple [],H)
def aFu:vb (.bool true) true=true:=rfl
def aFK:vb (.bool V) false=false:=rfl
def auq:vb (.bool false) V=false:=rfl
def ata:vb (.bool W) W=true:=rfl
def as7{w:mi}:vb (.tuple []) w=false:=rfl
def jF{y n:R}{H:aj}(F:o.guard=O (j,want))(D:aag[j]? =O oj)(J:oj.dst=O d)
 (hx:stp (vb (ai T d) want) (bR P y aae T H o.op) H=O r) (h:∃T',gv P y aae n aag l (dZ n T o.dst r.1) r.2=O (T',H')/\Rqq T'):∃T',gv P y aae n aag (o::l) T H=O (T',H')/\Rqq T':=by
 have A:cn aag T o=vb (ai T d) want:=by unfold cn;rw[F];simp[D,J];cases ai T d<;>rfl
 cases u:vb _ want;.rw[u]at hx;cases hx;exact alb (A.trans u) h
 .rw[u]at hx;exact fC (A.trans u) hx h
section
variable{A Bqq C D E F G I J K L M N:Prop}
def iy(a:A)(b:Bqq):A/\Bqq:=⟨a,b⟩
def jG(a:A)(b:Bqq)(c:C):A/\Bqq/\C:=⟨a,b,c⟩
def nP(a:A)(b:Bqq)(c:C)(d:D):A/\Bqq/\C/\D:=⟨a,b,c,d⟩
def xK(a:A)(b:Bqq)(c:C)(d:D)(e:E):A/\Bqq/\C/\D/\E:=⟨a,b,c,d,e⟩
def AQ(a:A)(b:Bqq)(c:C)(d:D)(e:E)(f:F):A/\Bqq/\C/\D/\E/\F:=⟨a,b,c,d,e,f⟩
def zA(a:A)(b:Bqq)(c:C)(d:D)(e:E)(f:F)(g:G):A/\Bqq/\C/\D/\E/\F/\G:=⟨a,b,c,d,e,f,g⟩
def mN(a:A)(b:Bqq)(c:C)(d:D)(e:E)(f:F)(g:G)(i:I):A/\Bqq/\C/\D/\E/\F/\G/\I:=⟨a,b,c,d,e,f,g,i⟩
end
def AB:=mN AA @KI.{1} @KK.{1} aFu aFK auq ata (xK @as7 @stp.eq_1 @stp.eq_2 @adW @adX)
section
variable{C:Prop}
variable{P:aA}{ng n:R}{aae:bg}{T:aM}{H H':aj}{Qqq:nv}{id:R}{aag:dV}
def aS(Rqq:Ju)(c:C)(u:∀T',Rqq T'->(∀t,ee aag.toList t=V->ai T' t=ai T t)->Qqq .normal T' H')
 (h:C->∃T',gv P ng aae n aag.toList aag.toList T H=O (T',H')/\Rqq T':=by intro c;(repeat ((first|apply fC (cf rfl)|apply jF rfl rfl rfl);simp+decide only[AB,c,mG,ou];rfl));exact fX (by first|exact True.intro|(simp+decide only[AB,uM,true_and]<;>first|rfl|(simp;done))|(simp+decide only[AB,c]<;>rfl))):
 bB P ng aae n (.region id aag W) T H Qqq:=iK Rqq (h c) u
def WDc(Rqq:Ju)(u:LC aag.toList=V)(c:C)(y:∀T',Rqq T'->(∀t,ee aag.toList t=V->ai T' t=ai T t)->Qqq .normal T' H)
 (h:C->∃T',gv P ng aae n aag.toList aag.toList T H=O (T',H)/\Rqq T':=by intro c;(repeat ((first|apply fC (cf rfl)|apply jF rfl rfl rfl);simp+decide only[AB,c,mG,ou];rfl));exact fX (by first|exact True.intro|(simp+decide only[AB,uM,true_and]<;>first|rfl|(simp;done))|(simp+decide only[AB,c]<;>rfl))):
 bB P ng aae n (.region id aag V) T H Qqq:=aJc Rqq u (h c) y
def aL{T T':aM}{l:dM}{t:R}{v:au}(k:∀t,ee l t=true->ai T' t=ai T t)(h:ai T t=v)(d:ee l t=true:=by rfl):ai T' t=v:=(k t d).trans h
section
variable{T T':aM}{l:dM}{t0 t1 t2 t3 t4 t5 t6 t7:R}{v0 v1 v2 v3 v4 v5 v6 v7:au}
def jA(k:∀t,ee l t=true->ai T' t=ai T t)(h0:ai T t0=v0)(h1:ai T t1=v1)(d0:ee l t0=true:=by rfl)(d1:ee l t1=true:=by rfl):ai T' t0=v0/\ai T' t1=v1:=⟨(k _ d0).trans h0,(k _ d1).trans h1⟩
def pB(k:∀t,ee l t=true->ai T' t=ai T t)(h0:ai T t0=v0)(h1:ai T t1=v1)(h2:ai T t2=v2)(d0:ee l t0=true:=by rfl)(d1:ee l t1=true:=by rfl)(d2:ee l t2=true:=by rfl):ai T' t0=v0/\ai T' t1=v1/\ai T' t2=v2:=⟨(k _ d0).trans h0,(k _ d1).trans h1,(k _ d2).trans h2⟩
def xu(k:∀t,ee l t=true->ai T' t=ai T t)(h0:ai T t0=v0)(h1:ai T t1=v1)(h2:ai T t2=v2)(u:ai T t3=v3)(d0:ee l t0=true:=by rfl)(d1:ee l t1=true:=by rfl)(d2:ee l t2=true:=by rfl)(d3:ee l t3=true:=by rfl):ai T' t0=v0/\ai T' t1=v1/\ai T' t2=v2/\ai T' t3=v3:=⟨(k _ d0).trans h0,(k _ d1).trans h1,(k _ d2).trans h2,(k _ d3).trans u⟩
def nR(k:∀t,ee l t=true->ai T' t=ai T t)(h0:ai T t0=v0)(h1:ai T t1=v1)(h2:ai T t2=v2)(y:ai T t3=v3)(u:ai T t4=v4)(d0:ee l t0=true:=by rfl)(d1:ee l t1=true:=by rfl)(d2:ee l t2=true:=by rfl)(d3:ee l t3=true:=by rfl)(d4:ee l t4=true:=by rfl):ai T' t0=v0/\ai T' t1=v1/\ai T' t2=v2/\ai T' t3=v3/\ai T' t4=v4:=⟨(k _ d0).trans h0,(k _ d1).trans h1,(k _ d2).trans h2,(k _ d3).trans y,(k _ d4).trans u⟩
def Aw(k:∀t,ee l t=true->ai T' t=ai T t)(h0:ai T t0=v0)(h1:ai T t1=v1)(h2:ai T t2=v2)(y:ai T t3=v3)(u:ai T t4=v4)(h5:ai T t5=v5)(d0:ee l t0=true:=by rfl)(d1:ee l t1=true:=by rfl)(d2:ee l t2=true:=by rfl)(d3:ee l t3=true:=by rfl)(d4:ee l t4=true:=by rfl)(A:ee l t5=true:=by rfl):ai T' t0=v0/\ai T' t1=v1/\ai T' t2=v2/\ai T' t3=v3/\ai T' t4=v4/\ai T' t5=v5:=⟨(k _ d0).trans h0,(k _ d1).trans h1,(k _ d2).trans h2,(k _ d3).trans y,(k _ d4).trans u,(k _ A).trans h5⟩
def Dn(k:∀t,ee l t=true->ai T' t=ai T t)(h0:ai T t0=v0)(h1:ai T t1=v1)(h2:ai T t2=v2)(A:ai T t3=v3)(y:ai T t4=v4)(h5:ai T t5=v5)(u:ai T t6=v6)(d0:ee l t0=true:=by rfl)(d1:ee l t1=true:=by rfl)(d2:ee l t2=true:=by rfl)(d3:ee l t3=true:=by rfl)(d4:ee l t4=true:=by rfl)(D:ee l t5=true:=by rfl)(d6:ee l t6=true:=by rfl):ai T' t0=v0/\ai T' t1=v1/\ai T' t2=v2/\ai T' t3=v3/\ai T' t4=v4/\ai T' t5=v5/\ai T' t6=v6:=⟨(k _ d0).trans h0,(k _ d1).trans h1,(k _ d2).trans h2,(k _ d3).trans A,(k _ d4).trans y,(k _ D).trans h5,(k _ d6).trans u⟩
def aoZ(k:∀t,ee l t=true->ai T' t=ai T t)(h0:ai T t0=v0)(h1:ai T t1=v1)(h2:ai T t2=v2)(D:ai T t3=v3)(A:ai T t4=v4)(h5:ai T t5=v5)(y:ai T t6=v6)(u:ai T t7=v7)(d0:ee l t0=true:=by rfl)(d1:ee l t1=true:=by rfl)(d2:ee l t2=true:=by rfl)(d3:ee l t3=true:=by rfl)(d4:ee l t4=true:=by rfl)(J:ee l t5=true:=by rfl)(d6:ee l t6=true:=by rfl)(F:ee l t7=true:=by rfl):ai T' t0=v0/\ai T' t1=v1/\ai T' t2=v2/\ai T' t3=v3/\ai T' t4=v4/\ai T' t5=v5/\ai T' t6=v6/\ai T' t7=v7:=⟨(k _ d0).trans h0,(k _ d1).trans h1,(k _ d2).trans h2,(k _ d3).trans D,(k _ d4).trans A,(k _ J).trans h5,(k _ d6).trans y,(k _ F).trans u⟩
end
def mg{H:aj}(g:Good H)(cells:aF)(ex:mi)(sz:R):∃K,alloc H cells ex sz=K/\Good K/\Fr X H K/\qJ K H.ae ⟨cells,H.ae,0,ex,W,sz⟩/\K.ae=H.ae+1:=⟨_,Q,jb g _ _ _,iv g _ _ _,mK _ _ _ _,Q⟩
end
section
variable{a b:bg}{v:au}
variable{P:aA}{ng:R}
def N9(P:aA)(ng:R)(bs:bg)(m:R):bg:=
 Nat.rec (motive:=λ _=>bg) (λ _ _ _=>X)
  (λ _ u f args H=>DT (motive:=λ _=>kO)
   (DT (motive:=λ _=>kO) X (λ fn=>LM P ng u args H fn) (P.funcs[f]?))
   (λ r=>O r) (bs f args H)) m
def aeM(bs:bg)(m:R)(f:ck)(args:aF)(H:aj):
 N9 P ng bs (m+1) f args H=(match bs f args H with|some r=>O r|none=>(match P.funcs[f]?with|some fn=>LM P ng (N9 P ng bs m) args H fn|none=>X)):=by
 show DT (motive:=λ _=>gw _)
  _
  _ _=_
 cases bs f args H;.cases P.funcs[f]? <;>rfl
 .rename_i v;rfl
def afU{f:ck}{H:aj}(F:P.funcs[f]? =O fn)(h:LM P ng aae args H fn=O (v,H')):fp P ng aae f args H (v,H'):=by obtain⟨c,e,T,l,J,A,y,u,D⟩:=aEt h;exact⟨fn,c,1000000,e,T,l,F,J,A,y,u,D⟩
def aix{bs:bg}(u:ib bs):∀m,ib (N9 P ng bs m)
 |0=>nofun
 |m+1=>λ f args H v H' h=>by
  rw[aeM]at h;split at h;.rename_i r y;cases h;exact u _ _ _ _ _ y
  split at h;.rename_i fn A;exact aod (aix u m) (afU A h)
  cases h
def aex{bs:bg}(y:jV P ng bs)(A:ib bs)(u:xW P):∀m,jV P ng (N9 P ng bs m)
 |0=>nofun
 |m+1=>λ f args H v H' h=>by
  rw[aeM]at h;split at h;.rename_i r D;cases h;exact y _ _ _ _ _ D
  split at h;.rename_i fn F;exact aaz (aex y A u m) (aix A m) u (afU F h)
  cases h
def KX(sm:QH):bg:=λ f args H=>DT (motive:=λ _=>kO) X (λ v=>O (v,H)) (sm f args H)
def NV(a b:bg):bg:=λ f args H=>DT (motive:=λ _=>kO) (b f args H) (λ r=>O r) (a f args H)
def aoD{f:ck}{H:aj}(h:KX sm f args H=O (v,H')):sm f args H=O v/\H'=H:=by
 unfold KX at h;cases e:sm f args H;.rw[e]at h;cases h
 rename_i x;rw[e]at h;cases h;exact⟨Q,Q⟩
def aza(h:Yl P ng sm):jV P ng (KX sm):=λ f args H v H' F Bqq ρ w u s wf _ hx=>by obtain⟨h1,e⟩:=aoD F;subst e;exact(h _ _ _ _ h1 Bqq ρ w u s wf hx).mono λ e J ⟨x,A,y,D⟩=>⟨x,ρ,A,y,D⟩
def aCo:ib (KX sm):=λ f args H v H' u=>by obtain⟨_,rfl⟩:=aoD u;exact iM.refl _
def amO{f:ck}{H:aj}(h:NV a b f args H=O r):a f args H=O r\/b f args H=O r:=by
 unfold NV at h;cases e:a f args H;.rw[e]at h;exact .inr h
 rename_i x;rw[e]at h;cases h;exact .inl Q
def arv(y:jV P ng a)(u:jV P ng b):jV P ng (NV a b):=λ f args H v H' h=>by
 rcases amO h with h|h
 .exact y f args H v H' h
 exact u f args H v H' h
def aJq(y:ib a)(u:ib b):ib (NV a b):=λ f args H v H' h=>by
 rcases amO h with h|h
 .exact y f args H v H' h
 exact u f args H v H' h
end
section
variable{l:aF}{o:Op}{ts:xC}{v:au}
variable{P:aA}{ng n:R}{aae:bg}
def iU(H H':aj):Prop:=H.ae<=H'.ae/\(∀u,u<H.ae->H.ah.get u=X->H'.ah.get u=X)/\∀u,u<H.ae->H.aV.get u=X->H'.aV.get u=X
theorem iU.refl(H:aj):iU H H:=⟨aZ _,λ _ _ e=>e,λ _ _ e=>e⟩
theorem iU.trans{a b c:aj}(h:iU a b)(k:iU b c):iU a c:=⟨fI h.1 k.1,λ u hu e=>k.2.1 u (eU hu h.1) (h.2.1 u hu e),λ u hu e=>k.2.2 u (eU hu h.1) (h.2.2 u hu e)⟩
theorem Ly{α:Type}{t:Tr α}{v u:R}{x:gw α}(y:v≠u)(h:t.get u=none):(t.set v x).get u=none:=by rw[Tr.uW _ y];exact h
def ahk{o:oR}(h:∀r,o=O r->False):o=none:=by cases o with|none=>rfl|some r=>exact(h r Q).elim
theorem Vk(H:aj)(cs:aF)(ex:mi)(sz:R):iU H (alloc H cs ex sz):=⟨mS _,λ u hu e=>Ly aa e,λ u hu e=>Ly aa e⟩
theorem Mt{H:aj}{v:R}{new:aF}(h:write H v off new=O H'):iU H H':=by
 unfold write at h;split at h;.cases h
 split at h<;>cases h;rename_i mem h1 h2 A y;refine⟨aZ _,λ u hu e=>?_,λ u hu e=>e⟩;refine Ly (λ e2=>bP) (ahk λ ru hu=>?_);rw[(AL mem _ u ru hu).1]at e;cases e
theorem aDs{H:aj}{bytes:R}{s:au}{new:aF}(h:gM H sz bytes s m new=O (v,H')):iU H H':=by
 unfold gM at h;split at h<;>try cases h
 split at h;.grind[iU.refl,Mt]
 split at h<;>try cases h
 split at h;.cases h;exact Vk _ _ _ _
 split at h<;>try cases h
 split at h
 .split at h<;>cases h;rename_i mem _ _ _;refine⟨mS _,λ u hu e=>?_,λ u hu e=>?_⟩
  rotate_left
  .grind[Ly]
  refine Ly aa (ahk λ ru hu=>?_);rw[(yE mem _ u ru hu).1]at e;cases e
 cases h
def aJT{H:aj}(h:iC P H ts l=O (v,H')):iU H H':=by
 unfold iC at h
 repeat' (split at h)
 all_goals first|(cases h;done)|exact aDs h|(cases h;exact iU.refl _)
def aDu{H:aj}(h:wR P H ts l=O (v,H')):iU H H':=by
 unfold wR at h;split at h<;>try cases h
 split at h
 .split at h
  .split at h;.cases h;exact iU.refl _
   .split at h<;>cases h;rename_i u;exact Mt u
   cases h
  cases h
 cases h
def pg(aae:bg):Prop:=∀f args H v H',aae f args H=O (v,H')->iU H H'
theorem aFw{aae:bg}(A:pg aae){H:aj}(h:uV P ng aae T H o=O (v,H')):iU H H':=by
 cases o with
 |store t x y=>
  change xG P H t _ _=_ at h;unfold xG at h;split at h
  .split at h;.rename_i K u;unfold dD at u;grind[Mt]
   cases h
  cases h
 |call c=>
  change yT P ng aae T H c=_ at h;unfold yT at h;split at h
  .unfold ud at h;split at h;.obtain⟨fn,J,h1,h2,F,D⟩:=YF h;exact A _ _ _ _ _ D
   cases h
  .unfold Bj at h;split at h;.exact aJT h
   cases h
  .unfold GX at h;split at h;.exact aDu h
   cases h
  cases h
 |_=>cases h
theorem aCd{aae:bg}(u:pg aae){H:aj}(h:bR P ng aae T H o=O (v,H')):iU H H':=by
 unfold bR at h;split at h;.unfold iG at h;grind[iU.refl]
 .unfold iG at h;grind[iU.refl]
 .unfold sy at h;grind[Vk]
 exact aFw u h
def SW{aae:bg}(u:pg aae):∀{l:dM} {T T':aM} {H H':aj},gv P ng aae n aag l T H=O (T',H')->iU H H'
 |[],T,T',H,H',h=>by cases h;exact iU.refl _
 |o::l,T,T',H,H',h=>by
  rw[zR]at h;split at h
  .split at h;.rename_i r y;exact(aCd u y).trans (SW u h)
   cases h
  exact SW u h
theorem aDU(u:pg aae){aag:dV}{H:aj}(h:kK P ng aae n aag T H draw=O (T',H')):iU H H':=by
 rcases adb h with h|⟨_,h⟩
 .exact SW u h
 exact SW u h
theorem ako(D:pg aae):∀(m:R) (c:af8) (T:aM) (H:aj) (e:oP) (T':aM) (H':aj),dE P ng aae n m c T H=O (e,T',H')->iU H H':=by
 intro m;induction m with
 |zero=>intro c T H e T' H' h;cases h
 |succ m u=>
  intro c T H e T' H' h;cases c with
  |skip=>cases h;exact iU.refl _
  |region id aag d=>
   change rG _=_ at h;unfold rG at h;grind[aDU]
  |seq a b=>
   rcases Gi h with⟨y,A,h1,h2⟩|⟨h1,_⟩
   .exact(u a T H _ y A h1).trans (u b y A e T' H' h2)
   exact u a T H e T' H' h1
  |cond x a b=>
   change oL (dE P ng aae n m a T H) (dE P ng aae n m b T H) _=_ at h;unfold oL at h;grind
  |block id a=>
   change nN id (dE P ng aae n m a T H)=_ at h;unfold nN at h;grind
  |loop a=>
   rcases Gi h with⟨y,A,h1,h2⟩|⟨h1,_⟩
   .exact(u a T H _ y A h1).trans (u _ y A e T' H' h2)
   exact u a T H e T' H' h1
  |exit id=>cases h;exact iU.refl _
  |ret=>cases h;exact iU.refl _
  |_=>cases h
theorem yl(u:pg aae){f:ck}{H:aj}(h:fp P ng aae f args H r):iU H r.2:=by obtain⟨fn,c,m,e,T,l,h1,h2,y,_⟩:=h;exact ako u _ c _ H e T _ y
def aJt{base:bg}(y:pg base)(u:pg aae):pg (tI P ng base aae):=λ f args H v H' h=>by
 rcases Te h with h|h
 .exact y f args H v H' h
 exact yl u h
end
end
end Go.Abs
