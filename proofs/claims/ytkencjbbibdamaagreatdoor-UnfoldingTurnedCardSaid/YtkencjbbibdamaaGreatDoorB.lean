/- The abstract machine: regions, code, calls. -/
import Derived.Test.YtkencjbbibdamaaGreatDoorA
import Derived.Orders
set_option linter.all false
namespace Go.Abs
noncomputable section
open Go
variable{β:Type}{G:Nat->Option β}{H':ah}{L:Nat->Bool}{P:Program}{S:eX}{a b:Int}{bef:Nat->Nat}{Z7:aW}{draw:Bool}{es:List (Nat×Tr Row)}{fm:Option Nat}{fn:Func}{g:Nat->Option Row}{i j m off s sz v:Nat}{k:IntKind}{l Z8:List Oper}{md:Region.Mode}{o:Oper}{objs0:Tr Row}{cA:List Nat}{t:TypeId}{w0:World}{ρ ρ':cr}
section
variable{T T':Tr aa}{o:Op}{Z8:Array Oper}
variable{P:Program}{ng n B:Nat}{ρ:cr}
theorem M4(m i:Nat):tb m i=m.testBit i:=by unfold tb;rw[Nat.testBit_eq_decide_div_mod_eq];have h:Nat.shiftRight m i=m/2^i:=Vo m i;rw[h];show Nat.beq (m/2^i%2) 1=_;grind[Nat.beq]
theorem Yx(acc:Array Nat)(j:Nat):∀(es:List Edge) (s:Nat),(es.foldl (λ s e=>if Region.binds .any e then s|||2^e.on|||acc.getD e.on 0 else s) s).testBit j=true->
 s.testBit j=true\/∃e∈es,Region.binds .any e=true/\(e.on=j\/(acc.getD e.on 0).testBit j=true)
 |[],s,h=>.inl h
 |e::es,s,h=>by
  simp only[Vj]at h;rcases Yx acc j es _ h with D|⟨e',q,A,y⟩
  .grind
  grind
def pC(acc:Array Nat)(o:Oper):Array Nat:=acc.push (o.after.foldl (λ s e=>if Region.binds .any e then s|||2^e.on|||acc.getD e.on 0 else s) 0)
theorem aet:∀(l:List Oper) (acc:Array Nat),(l.foldl pC acc).size=acc.size+l.length/\(∀i,i<acc.size->(l.foldl pC acc)[i]? =acc[i]?)/\
 ∀k (o:Oper) j,l[k]? =some o->((l.foldl pC acc).getD (acc.size+k) 0).testBit j=true->∃e∈o.after.toList,Region.binds .any e=true/\(e.on=j\/(e.on<acc.size+k/\((l.foldl pC acc).getD e.on 0).testBit j=true))
 |[],acc=>⟨rfl,λ _ _=>rfl,λ k o j h=>by simp at h⟩
 |x::l,acc=>by
  obtain⟨Z,Y,h3⟩:=aet l (pC acc x);have N:(pC acc x).size=acc.size+1:=by simp[pC]
  have q:∀i,i<acc.size->((x::l).foldl pC acc)[i]? =acc[i]? :=λ i hi=>by grind[pC]
  refine⟨by grind,q,λ k o j J A=>?_⟩;cases k
  .simp at J;subst J;have A:((l.foldl pC (pC acc x)).getD (acc.size+0) 0).testBit j=true:=A;have K:(l.foldl pC (pC acc x))[acc.size]? =some (x.after.foldl (λ s e=>if Region.binds .any e then s|||2^e.on|||acc.getD e.on 0 else s) 0):=by grind[pC]
   rw[nY,kW,K,Eh,<-aio]at A;rcases Yx acc j x.after.toList 0 A with h|⟨e,M,F,y⟩
   .simp at h
   refine⟨e,M,F,?_⟩;rcases y with y|y
   .exact .inl y
   have D:e.on<acc.size:=by grind
   refine .inr ⟨by omega,?_⟩;rw[kW,q e.on D,<-kW];exact y
  rename_i k;grind
theorem aAz(h:tb (cO Z8 i) j=true):∃o,Z8[i]? =some o/\∃e∈o.after.toList,Region.binds .any e=true/\(e.on=j\/(e.on<i/\tb (cO Z8 e.on) j=true)):=by
 have A:Region.before Z8=Z8.toList.foldl pC #[]:=by unfold Region.before;rw[<-aio];rfl
 have h:((Region.before Z8).getD i 0).testBit j=true:=by rw[<-M4];exact h
 obtain⟨J,_,h3⟩:=aet Z8.toList #[];rw[A]at h;have q:i<Z8.toList.length:=by grind
 obtain⟨e,D,y,F⟩:=h3 i (Z8.toList[i]'q) j (cW q) (by simpa using h);grind[M4,cO]
theorem aie{L:Nat->Prop}(q:∀i o e,L i->Z8[i]? =some o->e∈o.after.toList->Region.binds .any e=true->L e.on):
 ∀i,(L i\/∀o e,Z8[i]? =some o->e∈o.after.toList->Region.binds .any e=true->L e.on)->∀j,tb (cO Z8 i) j=true->L j:=by
 intro i;induction i using Nat.strongRecOn with
 |_ i h=>grind[aAz]
def ya(ng:Nat)(T T':Tr aa)(h:List Operand):Prop:=∀x∈h,aU ng T x=aU ng T' x
def Jl:∀{q:List Operand},ya ng T T' q->jo ng T q=jo ng T' q
 |[],_=>rfl
 |x::q,h=>by rw[Qw,Qw,h x (by simp),Jl (λ y A=>h y (by simp[A]))]
theorem Qa:∀{q:List (Nat×Operand)},ya ng T T' (q.map (·.2))->my ng T q=my ng T' q
 |[],_=>rfl
 |(i,x)::q,h=>by simp only[my];rw[h x (by simp),Qa (λ y A=>h y (by simp at A⊢;exact .inr A))]
theorem axd(h:ya ng T T' o.operands.toList):kP P ng T o=kP P ng T' o:=by
 cases o with
 |move x=>exact h x (by simp[Op.operands])
 |assign x=>exact h x (by simp[Op.operands])
 |pick c a b=>show vJ _ _ _=vJ _ _ _;rw[h c (by simp[Op.operands]),h a (by simp[Op.operands]),h b (by simp[Op.operands])]
 |build t ps=>show lP P t _=lP P t _;grind[Qa,Op.operands]
 |nilCheck x=>show vM _=vM _;rw[h x (by simp[Op.operands])]
 |binOp q t x y F=>show xX P q t _ _=xX P q t _ _;rw[h x (by simp[Op.operands]),h y (by simp[Op.operands])]
 |unOp q t x=>show yw q _=yw q _;rw[h x (by simp[Op.operands])]
 |convert s d x=>show rh P s d _=rh P s d _;rw[h x (by simp[Op.operands])]
 |makeFunc fn first cap=>
  cases fn with
  |func f=>
   show Be f _ _=Be f _ _;rw[Jl (λ x D=>h x (by grind[Op.operands])),Jl (λ x D=>h x (by grind[Op.operands]))]
  |_=>rfl
 |fieldAddr s x f=>show xQ P s f _=xQ P s f _;rw[h x (by simp[Op.operands])]
 |indexAddr t x ix=>show zd P t _ _=zd P t _ _;rw[h x (by simp[Op.operands]),h ix (by simp[Op.operands])]
 |index t x ix=>show yB P t _ _=yB P t _ _;rw[h x (by simp[Op.operands]),h ix (by simp[Op.operands])]
 |extract x i=>show yI i _=yI i _;rw[h x (by simp[Op.operands])]
 |call c=>
  obtain⟨A,args,ts⟩:=c;show wm P ng T _=wm P ng T' _;unfold wm;dsimp only;split;.rename_i x _ h3;rw[h x (by grind[Op.operands,Call.operands])]
  .rename_i x y h3;rw[h x (by grind[Op.operands,Call.operands]),h y (by grind[Op.operands,Call.operands])]
  .rename_i x y h3;rw[h x (by grind[Op.operands,Call.operands]),h y (by grind[Op.operands,Call.operands])]
  rfl
 |_=>rfl
def aeT{x:Option Operand}(h:ya ng T T' x.toList):nK ng T x=nK ng T' x:=by
 cases x;.rfl
 rename_i x;simp only[nK];rw[h x (by simp)]
theorem ayP(h:ya ng T T' o.operands.toList):dP P ng T g o=dP P ng T' g o:=by
 cases o with
 |load t x=>show sj P g t _=sj P g t _;rw[h x (by simp[Op.operands])]
 |slice t x lo hi mx=>
  show rW P g t _ _ _ _=rW P g t _ _ _ _;rw[h x (by simp[Op.operands]),aeT (x:=lo) (λ y A=>h y (by grind[Op.operands])),aeT (x:=hi) (λ y A=>h y (by grind[Op.operands]))]
 |call c=>
  obtain⟨q,args,ts⟩:=c;show we P ng T g _=we P ng T' g _;unfold we;dsimp only;split;.rename_i x _ h3;rw[h x (by grind[Op.operands,Call.operands])]
  rfl
 |_=>rfl
theorem amW(h:ya ng T T' o.operands.toList):so P ng T o=so P ng T' o:=by
 cases o with
 |box t x=>show pW _=pW _;rw[h x (by simp[Op.operands])]
 |buildSlice t len ps=>show nM P t len _=nM P t len _;grind[Qa,Op.operands]
 |makeSlice t l c=>show wQ P t _ _=wQ P t _ _;rw[h l (by simp[Op.operands]),h c (by simp[Op.operands])]
 |_=>rfl
theorem azH{H:ah}(h:ya ng T T' o.operands.toList):r9 P ng Z7 T H o=r9 P ng Z7 T' H o:=by
 cases o with
 |store t x y=>show sF P H t _ _=sF P H t _ _;rw[h x (by simp[Op.operands]),h y (by simp[Op.operands])]
 |call c=>
  obtain⟨q,args,ts⟩:=c;show qQ P ng Z7 T H _=qQ P ng Z7 T' H _;have A:jo ng T args.toList=jo ng T' args.toList:=Jl (λ x D=>h x (by grind[Op.operands,Call.operands]));unfold qQ;dsimp only;rw[A];cases q with
  |value f=>dsimp only;rw[h f (by simp[Op.operands,Call.operands])]
  |builtin b=>cases b<;>rfl
  |invoke r m=>rfl
 |_=>rfl
end
section
variable{P:Program}{ng n B:Nat}{ρ:cr}
theorem KU(Z7:aW)(Z8:List Oper):∀(q h:List Oper) (T:Tr aa) (H:ah),
 eQ P ng Z7 n Z8 (q++h) T H=(match eQ P ng Z7 n Z8 q T H with|some r=>eQ P ng Z7 n Z8 h r.1 r.2|none=>none)
 |[],h,T,H=>rfl
 |o::q,h,T,H=>by
  rw[zC,wO,wO];split
  .cases bK P ng Z7 T H o.op;.rfl
   rename_i r;exact KU Z7 Z8 q h _ _
  exact KU Z7 Z8 q h _ _
structure pQ (P:Program) (ng:Nat) (Z7:aW) (n:Nat) (Z8:Array Oper) (Tt:Nat->Tr aa) (Ht:Nat->ah) (vt:Nat->aa) (wt:Nat->Bool):Prop where
 want:∀i o,Z8[i]? =some o->wt i=bJ Z8.toList (Tt i) o
 yes:∀i o,Z8[i]? =some o->wt i=true->bK P ng Z7 (Tt i) (Ht i) o.op=some (vt i,Ht (i+1))
 no:∀i o,Z8[i]? =some o->wt i=false->vt i=.tuple []/\Ht (i+1)=Ht i
 tmp:∀i o,Z8[i]? =some o->Tt (i+1)=cG n (Tt i) o.dst (vt i)
theorem adN{Z8:Array Oper}{J T':Tr aa}{K:ah}(h:eQ P ng Z7 n Z8.toList Z8.toList J K=some (T',H')):
 ∃Tt Ht vt wt,pQ P ng Z7 n Z8 Tt Ht vt wt/\Tt 0=J/\Ht 0=K/\Tt Z8.size=T'/\Ht Z8.size=H':=by
 have D:∀k,∃r,eQ P ng Z7 n Z8.toList (Z8.toList.take k) J K=some r:=by grind[KU,List.take_append_drop]
 let st:=λ k=>Classical.choose (D k)
 have M:∀k,eQ P ng Z7 n Z8.toList (Z8.toList.take k) J K=some (st k):=λ k=>ui (D k)
 have h0:st 0=(J,K):=by have:=M 0;simp only[dh]at this;exact(dU (this.symm.trans rfl))
 have N:st Z8.size=(T',H'):=by grind[List.take_of_length_le]
 have q:∀i o,Z8[i]? =some o->eQ P ng Z7 n Z8.toList [o] (st i).1 (st i).2=some (st (i+1)):=by grind[List.take_add_one,KU]
 refine⟨λ k=>(st k).1,λ k=>(st k).2,λ i=>match Z8[i]?with|some o=>(if bJ Z8.toList (st i).1 o then(match bK P ng Z7 (st i).1 (st i).2 o.op with|some r=>r.1|none=>.tuple [])else .tuple [])|none=>.tuple [],λ i=>match Z8[i]?with|some o=>bJ Z8.toList (st i).1 o|none=>false,⟨?_,?_,?_,?_⟩,by simp only[h0],by simp only[h0],by simp only[N],by simp only[N]⟩
 .intro i o y;simp only[y]
 .intro i o y A;simp only[y]at A⊢;have:=q i o y;rw[wO,ao A]at this;rw[ao A];cases F:bK P ng Z7 (st i).1 (st i).2 o.op;.rw[F]at this;cases this
  rename_i r;rw[F]at this;have this:some (cG n (st i).1 o.dst r.1,r.2)=some (st (i+1)):=this;grind
 .intro i o y A;simp only[y]at A⊢;have:=q i o y;rw[wO,aj (by simp[A])]at this;have this:some (cG n (st i).1 o.dst (.tuple []),(st i).2)=some (st (i+1)):=this;grind
 .intro i o y;simp only[y];have:=q i o y;rw[wO]at this;by_cases A:bJ Z8.toList (st i).1 o=true
  .rw[ao A]at this⊢;cases F:bK P ng Z7 (st i).1 (st i).2 o.op;.rw[F]at this;cases this
   rename_i r;rw[F]at this;have this:some (cG n (st i).1 o.dst r.1,r.2)=some (st (i+1)):=this;grind
  rw[aj A]at this⊢;have this:some (cG n (st i).1 o.dst (.tuple []),(st i).2)=some (st (i+1)):=this;grind
def kind(Z8:Array Oper)(wt:Nat->Bool)(i:Nat):Nat:=match Z8[i]?with|some o=>if wt i then min 3 (dj o.op)else 4|none=>4
section
variable(Z8:Array Oper)(Tt:Nat->Tr aa)(Ht:Nat->ah)(vt:Nat->aa)(wt:Nat->Bool)
def kL:Nat->List Nat
 |0=>[]
 |k+1=>if kind Z8 wt k=2\/kind Z8 wt k=3 then k::kL k else kL k
def jX:Nat->List (Nat×Tr Row)
 |0=>[]
 |k+1=>if kind Z8 wt k=3 then(k,(Ht (k+1)).objs)::jX k else jX k
def lS:Nat->List (Nat×Tr aa×Op×aa)
 |0=>[]
 |k+1=>if kind Z8 wt k=1 then(k,Tt k,(Z8.getD k default).op,vt k)::lS k else lS k
end
def aaI(Z7:aW)(Z8:List Oper)(bef:Nat->Nat)(o:Oper)(l:List Oper)(i:Nat)(S:eX)(T:Tr aa)(H:ah):
 gF P ng Z7 n Z8 bef (o::l) i S T H=if bJ Z8 T o then(match bK P ng Z7 T H o.op with
  |some r=>(match ib (bef i) i T o.op S r with|some S'=>gF P ng Z7 n Z8 bef l (i+1) S' (cG n T o.dst r.1) r.2|none=>none)
  |none=>none)else gF P ng Z7 n Z8 bef l (i+1) S (cG n T o.dst (.tuple [])) H:=by
 show Bool.rec (motive:=λ _=>Option (eX×Tr aa×ah)) (gF P ng Z7 n Z8 bef l (i+1) S (cG n T o.dst (.tuple [])) H) (Option.rec (motive:=λ _=>Option (eX×Tr aa×ah)) none (λ r=>Option.rec (motive:=λ _=>Option (eX×Tr aa×ah)) none (λ S'=>gF P ng Z7 n Z8 bef l (i+1) S' (cG n T o.dst r.1) r.2) (ib (bef i) i T o.op S r)) (bK P ng Z7 T H o.op)) (bJ Z8 T o)=_;cases bJ Z8 T o;.rfl
 .cases bK P ng Z7 T H o.op;.rfl
  rename_i r;simp only[jz];cases ib (bef i) i T o.op S r<;>rfl
def Bh{Z8:List Oper}:∀{l:List Oper} {i:Nat} {S S':eX} {T T':Tr aa} {H H':ah},gF P ng Z7 n Z8 bef l i S T H=some (S',T',H')->eQ P ng Z7 n Z8 l T H=some (T',H')
 |[],i,S,S',T,T',H,H',h=>by cases h;rfl
 |o::l,i,S,S',T,T',H,H',h=>by
  rw[aaI]at h;rw[wO];split at h
  .rename_i q;rw[ao q];cases y:bK P ng Z7 T H o.op;.rw[y]at h;cases h
   rename_i r;rw[y]at h;simp only[]at h⊢;cases A:ib (bef i) i T o.op S r;.rw[A]at h;cases h
   rename_i D;rw[A]at h;exact Bh h
  rename_i q;rw[aj q];exact Bh h
theorem ab5:∀{l:List Nat},qJ m l=true->∀a∈l,tb m a=true
 |[],_,a,q=>by cases q
 |b::l,h,a,q=>by
  have h:Bool.rec (motive:=λ _=>Bool) false (qJ m l) (tb m b)=true:=h;cases y:tb m b;.rw[y]at h;cases h
  rw[y]at h;rcases ck.1 q with rfl|q
  .exact y
  exact ab5 h a q
theorem Nk{Z8:Array Oper}{Tt:Nat->Tr aa}{Ht:Nat->ah}{vt:Nat->aa}{wt:Nat->Bool}(tx:pQ P ng Z7 n Z8 Tt Ht vt wt):
 ∀{l:List Oper} {i:Nat} {S':eX} {T':Tr aa} {H':ah},Z8.toList.drop i=l->i<=Z8.size->
  gF P ng Z7 n Z8.toList bef l i ⟨kL Z8 wt i,jX Z8 Ht wt i,lS Z8 Tt vt wt i⟩ (Tt i) (Ht i)=some (S',T',H')->
  S'=⟨kL Z8 wt Z8.size,jX Z8 Ht wt Z8.size,lS Z8 Tt vt wt Z8.size⟩/\∀k,i<=k->k<Z8.size->kind Z8 wt k=3->∀a∈kL Z8 wt k,tb (bef k) a=true
 |[],i,S',T',H',Z,hi,h=>by
  have hN:i=Z8.size:=by grind[List.drop_eq_nil_iff]
  cases h;grind
 |o::l,i,S',T',H',Z,hi,h=>by
  have A:Z8[i]? =some o:=by
   have:(Z8.toList.drop i)[0]? =some o:=by rw[Z];rfl
   grind
  have F:i<Z8.size:=by grind
  have J:Z8.toList.drop (i+1)=l:=by rw[<-pG,Z];rfl
  have Y:=tx.want i o A;have q:=tx.tmp i o A;rw[aaI,<-Y]at h;have y:kind Z8 wt i=if wt i then min 3 (dj o.op)else 4:=by simp[kind,A]
  have ab:(Z8.getD i default).op=o.op:=by simp[A]
  cases M:wt i
  .rw[M]at h y;simp only[rI,qv]at h y;obtain⟨h1,h2⟩:=tx.no i o A M;rw[<-h1,<-q,<-h2]at h;have e1:kL Z8 wt (i+1)=kL Z8 wt i:=by simp[kL,y]
   have e2:jX Z8 Ht wt (i+1)=jX Z8 Ht wt i:=by simp[jX,y]
   have e3:lS Z8 Tt vt wt (i+1)=lS Z8 Tt vt wt i:=by simp[lS,y]
   rw[<-e1,<-e2,<-e3]at h;obtain⟨g1,g2⟩:=Nk tx J F h;grind
  rw[M]at h y;simp only[jz]at h y;rw[tx.yes i o A M]at h;simp only[]at h;rw[<-q]at h
  have N:∀K,ib (bef i) i (Tt i) o.op ⟨kL Z8 wt i,jX Z8 Ht wt i,lS Z8 Tt vt wt i⟩ (vt i,Ht (i+1))=some K->
   K=⟨kL Z8 wt (i+1),jX Z8 Ht wt (i+1),lS Z8 Tt vt wt (i+1)⟩/\(kind Z8 wt i=3->∀a∈kL Z8 wt i,tb (bef i) a=true):=by
   intro K D;unfold ib at D;split at D;.grind[kL,jX,lS]
   .grind[kL,jX,lS,sW]
   .grind[kL,jX,lS,HM]
   .rename_i x af ae ad;have ac:3<=dj o.op:=by grind
    grind[kL,jX,lS,Bc,ab5]
  cases D:ib (bef i) i (Tt i) o.op ⟨kL Z8 wt i,jX Z8 Ht wt i,lS Z8 Tt vt wt i⟩ (vt i,Ht (i+1));.rw[D]at h;cases h
  rename_i K;rw[D]at h;obtain⟨rfl,hp⟩:=N K D;obtain⟨g1,g2⟩:=Nk tx J F h;grind
end
section
variable{b:Nat->Option β}
variable{P:Program}{ng n B:Nat}{ρ:cr}
mutual
theorem agc:∀(a b:aa),dZ a b=true->a=b
 |.bool a,.bool b,h=>by simp[dZ]at h;rw[h]
 |.int j a,.int k b,h=>by grind[dZ]
 |.str a,.str b,h=>by simp[dZ]at h;rw[h]
 |.nilPtr,.nilPtr,_=>rfl
 |.ptr v o,.ptr v' o',h=>by grind[dZ,beq_true]
 |.ai,.ai,_=>rfl
 |.slice v o k l,.slice v' o' k' l',h=>by grind[dZ,beq_true]
 |.dq,.dq,_=>rfl
 |.nilFunc,.nilFunc,_=>rfl
 |.iface,.iface,_=>rfl
 |.func f a b,.func f' a' b',h=>by simp only[dZ,aR]at h;rw[beq_true h.1.1,EE a a' h.1.2,EE b b' h.2]
 |.agg a,.agg b,h=>by simp only[dZ]at h;rw[EE a b h]
 |.tuple a,.tuple b,h=>by simp only[dZ]at h;rw[EE a b h]
 |.bool _,.int _ _,h|.bool _,.str _,h|.bool _,.nilPtr,h|.bool _,.ptr _ _,h|.bool _,.ai,h|.bool _,.slice _ _ _ _,h|.bool _,.dq,h|.bool _,.nilFunc,h|.bool _,.func _ _ _,h|.bool _,.agg _,h|.bool _,.tuple _,h=>by simp[dZ]at h
 |.int _ _,.bool _,h|.int _ _,.str _,h|.int _ _,.nilPtr,h|.int _ _,.ptr _ _,h|.int _ _,.ai,h|.int _ _,.slice _ _ _ _,h|.int _ _,.dq,h|.int _ _,.nilFunc,h|.int _ _,.func _ _ _,h|.int _ _,.agg _,h|.int _ _,.tuple _,h=>by simp[dZ]at h
 |.str _,.bool _,h|.str _,.int _ _,h|.str _,.nilPtr,h|.str _,.ptr _ _,h|.str _,.ai,h|.str _,.slice _ _ _ _,h|.str _,.dq,h|.str _,.nilFunc,h|.str _,.func _ _ _,h|.str _,.agg _,h|.str _,.tuple _,h=>by simp[dZ]at h
 |.nilPtr,.bool _,h|.nilPtr,.int _ _,h|.nilPtr,.str _,h|.nilPtr,.ptr _ _,h|.nilPtr,.ai,h|.nilPtr,.slice _ _ _ _,h|.nilPtr,.dq,h|.nilPtr,.nilFunc,h|.nilPtr,.func _ _ _,h|.nilPtr,.agg _,h|.nilPtr,.tuple _,h=>by simp[dZ]at h
 |.ptr _ _,.bool _,h|.ptr _ _,.int _ _,h|.ptr _ _,.str _,h|.ptr _ _,.nilPtr,h|.ptr _ _,.ai,h|.ptr _ _,.slice _ _ _ _,h|.ptr _ _,.dq,h|.ptr _ _,.nilFunc,h|.ptr _ _,.func _ _ _,h|.ptr _ _,.agg _,h|.ptr _ _,.tuple _,h=>by simp[dZ]at h
 |.ai,.bool _,h|.ai,.int _ _,h|.ai,.str _,h|.ai,.nilPtr,h|.ai,.ptr _ _,h|.ai,.slice _ _ _ _,h|.ai,.dq,h|.ai,.nilFunc,h|.ai,.func _ _ _,h|.ai,.agg _,h|.ai,.tuple _,h=>by simp[dZ]at h
 |.slice _ _ _ _,.bool _,h|.slice _ _ _ _,.int _ _,h|.slice _ _ _ _,.str _,h|.slice _ _ _ _,.nilPtr,h|.slice _ _ _ _,.ptr _ _,h|.slice _ _ _ _,.ai,h|.slice _ _ _ _,.dq,h|.slice _ _ _ _,.nilFunc,h|.slice _ _ _ _,.func _ _ _,h|.slice _ _ _ _,.agg _,h|.slice _ _ _ _,.tuple _,h=>by simp[dZ]at h
 |.dq,.bool _,h|.dq,.int _ _,h|.dq,.str _,h|.dq,.nilPtr,h|.dq,.ptr _ _,h|.dq,.ai,h|.dq,.slice _ _ _ _,h|.dq,.nilFunc,h|.dq,.func _ _ _,h|.dq,.agg _,h|.dq,.tuple _,h=>by simp[dZ]at h
 |.nilFunc,.bool _,h|.nilFunc,.int _ _,h|.nilFunc,.str _,h|.nilFunc,.nilPtr,h|.nilFunc,.ptr _ _,h|.nilFunc,.ai,h|.nilFunc,.slice _ _ _ _,h|.nilFunc,.dq,h|.nilFunc,.func _ _ _,h|.nilFunc,.agg _,h|.nilFunc,.tuple _,h=>by simp[dZ]at h
 |.func _ _ _,.bool _,h|.func _ _ _,.int _ _,h|.func _ _ _,.str _,h|.func _ _ _,.nilPtr,h|.func _ _ _,.ptr _ _,h|.func _ _ _,.ai,h|.func _ _ _,.slice _ _ _ _,h|.func _ _ _,.dq,h|.func _ _ _,.nilFunc,h|.func _ _ _,.agg _,h|.func _ _ _,.tuple _,h=>by simp[dZ]at h
 |.agg _,.bool _,h|.agg _,.int _ _,h|.agg _,.str _,h|.agg _,.nilPtr,h|.agg _,.ptr _ _,h|.agg _,.ai,h|.agg _,.slice _ _ _ _,h|.agg _,.dq,h|.agg _,.nilFunc,h|.agg _,.func _ _ _,h|.agg _,.tuple _,h=>by simp[dZ]at h
 |.tuple _,.bool _,h|.tuple _,.int _ _,h|.tuple _,.str _,h|.tuple _,.nilPtr,h|.tuple _,.ptr _ _,h|.tuple _,.ai,h|.tuple _,.slice _ _ _ _,h|.tuple _,.dq,h|.tuple _,.nilFunc,h|.tuple _,.func _ _ _,h|.tuple _,.agg _,h=>by simp[dZ]at h
 |.iface,.bool _,h|.iface,.int _ _,h|.iface,.str _,h|.iface,.nilPtr,h|.iface,.ptr _ _,h|.iface,.ai,h|.iface,.slice _ _ _ _,h|.iface,.dq,h|.iface,.nilFunc,h|.iface,.func _ _ _,h|.iface,.agg _,h|.iface,.tuple _,h|.bool _,.iface,h|.int _ _,.iface,h|.str _,.iface,h|.nilPtr,.iface,h|.ptr _ _,.iface,h|.ai,.iface,h|.slice _ _ _ _,.iface,h|.dq,.iface,h|.nilFunc,.iface,h|.func _ _ _,.iface,h|.agg _,.iface,h|.tuple _,.iface,h=>by simp[dZ]at h
theorem EE:∀(a b:List aa),qG a b=true->a=b
 |[],[],_=>rfl
 |x::xs,y::ys,h=>by simp only[qG,aR]at h;rw[agc x y h.1,EE xs ys h.2]
 |[],_::_,h|_::_,[],h=>by simp[qG]at h
end
theorem abN{T:Tr aa}{o:Op}{v:aa}(h:qT P ng T g o v=true):dP P ng T g o=some v:=by grind[qT,agc]
section reads
variable{Z8:Array Oper}{Ht:Nat->ah}{wt:Nat->Bool}{bef:Nat->Nat}{j:Nat}{T:Tr aa}{o:Op}{v:aa}
def Xb(P:Program)(ng:Nat)(Ht:Nat->ah)(bef:Nat->Nat)(j:Nat)(T:Tr aa)(o:Op)(v:aa)(p:Nat)(up:Option Nat):Prop:=(∃e,up=some e/\tb (bef j) e=true)\/(∃q,p=q+1/\tb (bef q) j=true)\/dP P ng T (Ht p).objs.get o=some v
def QT(Z8:Array Oper)(wt:Nat->Bool)(p k:Nat)(up h:Option Nat):Prop:=((∀q,p<=q->q<k->kind Z8 wt q≠3)/\h=up)\/∃q,p<=q/\q<k/\kind Z8 wt q=3/\(∀r,p<=r->r<q->kind Z8 wt r≠3)/\h=some q
def aw2(objs0:Tr Row)(up:Option Nat):qx P ng bef objs0 j T o v [] up=((match up with|some e=>tb (bef j) e|none=>false)||qT P ng T objs0.get o v):=rfl
def ayz(objs0:Tr Row)(e:Nat×Tr Row)(es:List (Nat×Tr Row))(up:Option Nat):qx P ng bef objs0 j T o v (e::es) up=(((match up with|some e'=>tb (bef j) e'|none=>false)||tb (bef e.1) j||qT P ng T e.2.get o v)&&qx P ng bef objs0 j T o v es (some e.1)):=rfl
theorem afs{up:Option Nat}(h:(match up with|some e=>tb (bef j) e|none=>false)=true):∃e,up=some e/\tb (bef j) e=true:=by grind
theorem IM:∀(k:Nat) (up:Option Nat),qx P ng bef (Ht 0).objs j T o v (jX Z8 Ht wt k) up=true->∀p,p<=k->(p=0\/∃q,p=q+1/\kind Z8 wt q=3)->∀y,QT Z8 wt p k up y->Xb P ng Ht bef j T o v p y
 |0,up,h,p,Z,_,y,K=>by
  obtain rfl:p=0:=by omega
  have A:y=up:=by
   rcases K with⟨_,h⟩|⟨q,_,M,_⟩
   .exact h
   omega
  subst A;rw[show jX Z8 Ht wt 0=[]from rfl,aw2,nZ]at h;rcases h with h|h
  .exact .inl (afs h)
  exact .inr (.inr (abN h))
 |k+1,up,h,p,Z,J,y,K=>by
  by_cases hk:kind Z8 wt k=3
  .have es:jX Z8 Ht wt (k+1)=(k,(Ht (k+1)).objs)::jX Z8 Ht wt k:=by simp[jX,hk]
   rw[es,ayz,aR,nZ,nZ]at h;rcases rJ Z with rfl|ab
   .have A:y=up:=by
     rcases K with⟨_,h⟩|⟨q,D,F,_⟩
     .exact h
     omega
    subst A;rcases h.1 with(h|h)|h
    .exact .inl (afs h)
    .exact .inr (.inl ⟨k,rfl,h⟩)
    exact .inr (.inr (abN h))
   refine IM k (some k) h.2 p (by omega) J y ?_;rcases K with⟨D,_⟩|⟨q,D,F,h3,Y,N⟩
   .grind
   rcases rJ (BD F)with rfl|M
   .exact .inl ⟨Y,N⟩
   exact .inr ⟨q,D,M,h3,Y,N⟩
  have es:jX Z8 Ht wt (k+1)=jX Z8 Ht wt k:=by simp[jX,hk]
  rw[es]at h;rcases rJ Z with rfl|ab
  .grind
  refine IM k up h p (by omega) J y ?_;rcases K with⟨D,F⟩|⟨q,D,F,h3,Y,N⟩
  .exact .inl ⟨λ q a b=>D q a (by omega),F⟩
  rcases rJ (BD F)with rfl|M
  .exact absurd h3 hk
  exact .inr ⟨q,D,M,h3,Y,N⟩
def Pu:∀{rs:List (Nat×Tr aa×Op×aa)},vd P ng bef objs0 es rs=true->∀r∈rs,qx P ng bef objs0 r.1 r.2.1 r.2.2.1 r.2.2.2 es none=true
 |[],_,r,q=>by cases q
 |x::rs,h,r,q=>by
  have h:(qx P ng bef objs0 x.1 x.2.1 x.2.2.1 x.2.2.2 es none&&vd P ng bef objs0 es rs)=true:=h;rw[aR]at h;rcases ck.1 q with rfl|q
  .exact h.1
  exact Pu h.2 r q
end reads
structure akF (m:Nat) (G:Nat->Option Row):Prop where lo:∀v r,G v=some r->m<=v/\r.aC=v/\r.ro=false
def gI{β:Type}(G b:Nat->Option β):Nat->Option β:=λ v=>match G v with|some x=>some x|none=>b v
theorem yQ{v:Nat}{x:β}(h:gI G b v=some x):G v=some x\/(G v=none/\b v=some x):=by grind[gI]
theorem zp{v:Nat}{x:β}(h:G v=some x):gI G b v=some x:=by simp[gI,h]
theorem CW{v:Nat}(h:G v=none):gI G b v=b v:=by simp[gI,h]
theorem cp.frame{b b' G:Nat->Option Row}{bf aj GF:Nat->Option (List Nat)}{Z:Nat}{w w':World}
 (s:ez B ng ρ (gI G b) (gI GF bf) w.heap) (hb:∀v r,b v=some r->v<m/\r.aC<m) (ao:∀v r,b' v=some r->v<Z/\r.aC<Z) (hG:akF Z G) (hm:m<=Z)
 (ap:∀v,GF v=(G v).map λ _=>[v]) (ab:ju ρ m Z) (c:cp B ng b m Z ρ w b' aj ρ' w'):cp B ng (gI G b) m Z ρ w (gI G b') (gI GF aj) ρ' w':=by
 have ai:=c.Kn ab
 have ad:∀v,v<Z->G v=none:=λ v q=>by
  cases h:G v;.rfl
  rename_i r;have:=(hG.lo v r h).1;omega
 have ac:∀v r,b v=some r->gI G b v=some r:=λ v r h=>by grind[CW]
 have aq:∀u ru K v r l,G u=some ru->ρ u=some K->b v=some r->ρ v=some l->K.bC≠l.bC:=by
  intro u ru K v r l D A q M e;have ne:u≠v:=by grind
  rcases s.sep u v ru r K l ne (zp D) (ac v r q) A M e with⟨h1,_⟩|⟨_,_,h3,_⟩
  .rw[(hG.lo u ru D).2.2]at h1;cases h1
  have:=(hG.lo u ru D);have:=(hb v r q).2;omega
 have N:∀u ru,G u=some ru->ρ' u=ρ u:=λ u ru D=>c.ext u (λ k=>by grind)
 have ae:∀u ru,G u=some ru->∃l C e fz,ρ u=some l/\w.heap[l.bC]? =some (.cells C e fz)/\w'.heap[l.bC]? =some (.cells C e fz)/\wM B ρ ru l C fz:=by intro u ru D;obtain⟨l,C,e,fz,M,Y,ok⟩:=s.row u ru (zp D);refine⟨l,C,e,fz,M,Y,?_,ok⟩;rw[c.qj l.bC (SX Y) (λ v r lv q y F e=>aq u ru l v r lv D M q F e.symm)];exact Y
 have J:∀u ru K v r l,G u=some ru->ρ u=some K->b' v=some r->ρ' v=some l->K.bC≠l.bC:=by
  intro u ru K v r l D A q M e;obtain⟨l1,C,e1,fz,ag,Y,_⟩:=s.row u ru (zp D);rw[A]at ag;cases ag;have au:=SX Y;cases y:r.ro
  .rcases c.oO v r l q y M with h|⟨x,rx,lx,hx,_,al,am⟩
   .omega
   grind
  have ak:=c.pA v r q y;have:=(hb v r ak).1;rw[c.ext v (λ k=>by omega)]at M;grind
 refine⟨⟨by have:=s.base;have:=c.size;omega,c.bN.iT,λ v r q=>?_,λ u v ru rv K lv ne D q A F=>?_,λ v r mem q y af=>?_⟩,c.ext,c.os,c.tape,c.output,c.size,λ k hk hn=>?_,λ v r l q y M=>?_,λ v r q y=>?_⟩
 .rcases yQ q with q|⟨_,q⟩
  .obtain⟨l,C,e,fz,M,_,an,ok⟩:=ae v r q;exact⟨l,C,e,fz,by rw[N v r q];exact M,an,ok.mono ai⟩
  exact c.bN.row v r q
 .rcases yQ D with D|⟨_,D⟩
  .rcases yQ q with q|⟨_,q⟩
   .rw[N u ru D]at A;rw[N v rv q]at F;exact s.sep u v ru rv K lv ne (zp D) (zp q) A F
   rw[N u ru D]at A;exact λ e=>absurd e (J u ru K v rv lv D A q F)
  rcases yQ q with q|⟨_,q⟩
  .rw[N v rv q]at F;exact λ e=>absurd e.symm (J v rv lv u ru K q F D A)
  exact c.bN.sep u v ru rv K lv ne D q A F
 .rcases yQ q with q|⟨_,q⟩
  .have hf:=(hG.lo v r q).2.1;grind[zp]
  have:=(ao v r q).2;rw[CW (by rw[ap,ad _ this];rfl)]at af;exact c.bN.aC v r mem q y af
 .exact c.qj k hk (λ v r l q y M=>hn v r l (ac v r q) y M)
 .rcases yQ q with q|⟨_,q⟩
  .grind[zp]
  rcases c.oO v r l q y M with h|⟨x,rx,lx,hx,ar,al,am⟩
  .exact .inl h
  grind
 .rcases yQ q with q|⟨_,q⟩
  .exact zp q
  exact ac v r (c.pA v r q y)
end
def MZ(Z8:Array Oper):Bool:=(List.range Z8.size).all λ j=>(List.range j).all λ i=>tb (cO Z8 j) i||(Z8.getD i default).apart Z8 (Z8.getD j default)
def uK(md:Region.Mode)(Z8:Array Oper):List Nat->List Nat->Bool
 |[],seen=>(List.range Z8.size).all λ i=>seen.contains i
 |i::rest,seen=>(match Z8[i]?with|some o=>o.after.toList.all (λ e=> !Region.binds md e||seen.contains e.on)|none=>false)&&uK md Z8 rest (i::seen)
def wj(Z8:Array Oper):Bool:=uK .any Z8 (Region.linearise .any Z8 0) []&&uK .text Z8 (Region.linearise .text Z8 0) []&&uK .gc Z8 (Region.linearise .gc Z8 0) []&&MZ Z8
theorem acH{Z8:Array Oper}(y:∀i,i<Z8.size->L i=false->∃o e,Z8[i]? =some o/\e∈o.after.toList/\Region.binds md e=true/\L e.on=false):
 ∀(l seen:List Nat),uK md Z8 l seen=true->(∀i∈seen,L i=true)->∀i,i<Z8.size->L i=true
 |[],seen,h,q,i,hi=>by simp only[uK,ij,zD]at h;grind
 |k::rest,seen,h,q,i,hi=>by simp only[uK,aR]at h;refine acH y rest (k::seen) h.2 (λ x A=>?_) i hi;grind
theorem RM{Z8:Array Oper}(h:MZ Z8=true){D A:Oper}(y:i<j)(hi:Z8[i]? =some D)(F:Z8[j]? =some A):tb (cO Z8 j) i=true\/D.apart Z8 A=true:=by
 have q:j<Z8.size:=by grind
 simp only[MZ,ij,zD]at h;have:=h j q i y;simp_all
section
variable(P:Program)(ng:Nat)(Z7:aW)(n:Nat)(Z8:Array Oper)(Tt:Nat->Tr aa)(Ht:Nat->ah)(vt:Nat->aa)(wt:Nat->Bool)
def Du(k:Nat):Option Tmp:=(Z8[k]?).bind (·.dst)
def TL(L:Nat->Bool):Nat->Tr aa
 |0=>Tt 0
 |k+1=>if L k=true then cG n (TL L k) (Du Z8 k) (vt k)else TL L k
def fE(s:Nat)(L:Nat->Bool):Nat->Nat->Option Row
 |0=>λ _=>none
 |k+1=>if s<=k/\L k=true/\kind Z8 wt k=2 then fU (fE s L k) (Ht k).next ((Ht (k+1)).objs.get (Ht k).next)else fE s L k
def jq(s:Nat)(L:Nat->Bool):Nat->Nat->Option (List Nat)
 |0=>λ _=>none
 |k+1=>if s<=k/\L k=true/\kind Z8 wt k=2 then fU (jq s L k) (Ht k).next (some [(Ht k).next])else jq s L k
end
theorem zu(n:Nat)(T:Tr aa)(d:Option Tmp)(v:aa)(t:Nat):aw (cG n T d v) t=if d=some t/\t<n then v else aw T t:=by
 cases d;.simp[abJ]
 rename_i d;grind[IJ,yV,Tr.fT]
def fi.congr{n:Nat}{T T':Tr aa}{tmps:Array Value}(h:fi ρ n T tmps)(e:∀t,aw T' t=aw T t):fi ρ n T' tmps:=⟨h.size,λ i=>by rw[e];exact h.get i⟩
section
variable{P:Program}{ng n B:Nat}{Z7:aW}{Z8:Array Oper}{Tt:Nat->Tr aa}{Ht:Nat->ah}{vt:Nat->aa}{wt:Nat->Bool}
theorem N0(tx:pQ P ng Z7 n Z8 Tt Ht vt wt)(y:Z8[i]? =some o):
 (kind Z8 wt i=0/\wt i=true/\kP P ng (Tt i) o.op=some (vt i)/\Ht (i+1)=Ht i)\/
 (kind Z8 wt i=1/\wt i=true/\dP P ng (Tt i) (Ht i).objs.get o.op=some (vt i)/\Ht (i+1)=Ht i)\/
 (kind Z8 wt i=2/\wt i=true/\∃cs sz m,so P ng (Tt i) o.op=some (cs,sz,m)/\vt i=tf (Ht i).next m/\Ht (i+1)=Abs.alloc (Ht i) cs true sz)\/
 (kind Z8 wt i=3/\wt i=true/\r9 P ng Z7 (Tt i) (Ht i) o.op=some (vt i,Ht (i+1)))\/
 (kind Z8 wt i=4/\wt i=false/\vt i=.tuple []/\Ht (i+1)=Ht i):=by
 cases q:wt i;.obtain⟨J,F⟩:=tx.no i o y q;grind[kind]
 .have h:=tx.yes i o y q;have D:kind Z8 wt i=min 3 (dj o.op):=by simp[kind,y,q]
  unfold bK at h;split at h;.rename_i A;unfold fZ at h;grind
  .rename_i A;unfold fZ at h;grind
  .rename_i A;unfold mX at h;grind
  grind
end
section
variable{p q:Nat}
variable{P:Program}{ng n B:Nat}{Z7:aW}{Z8:Array Oper}{Tt:Nat->Tr aa}{Ht:Nat->ah}{vt:Nat->aa}{wt:Nat->Bool}
def agh(h:gS Z7)(tx:pQ P ng Z7 n Z8 Tt Ht vt wt):∀i,i<Z8.size->gG (Ht i) (Ht (i+1)):=by
 intro i hi;have A:Z8[i]? =some Z8[i]:=uj hi;cases y:wt i;.rw[(tx.no i _ A y).2];exact gG.refl _
 exact Tm h (tx.yes i _ A y)
theorem nU(y:gS Z7)(tx:pQ P ng Z7 n Z8 Tt Ht vt wt):∀(j i:Nat),i<=j->j<=Z8.size->gG (Ht i) (Ht j):=by
 intro j;induction j with
 |zero=>grind[gG.refl]
 |succ j A=>
  intro i h D;rcases rJ h with rfl|h
  .exact gG.refl _
  exact(A i (by omega) (by omega)).trans (agh y tx j (by omega))
theorem Hx(h:kind Z8 wt i≠4):i<Z8.size:=by grind[kind]
theorem made(tx:pQ P ng Z7 n Z8 Tt Ht vt wt){i:Nat}(y:kind Z8 wt i=2):
 ∃cs sz,Ht (i+1)=Abs.alloc (Ht i) cs true sz/\(Ht (i+1)).objs.get (Ht i).next=some ⟨cs,(Ht i).next,0,true,false,sz⟩/\(Ht (i+1)).next=(Ht i).next+1:=by
 have A:=Hx (i:=i) (Z8:=Z8) (wt:=wt) (by rw[y];decide);have F:Z8[i]? =some Z8[i]:=uj A;rcases N0 tx F with h|h|h|h|h
 .rw[h.1]at y;cases y
 .rw[h.1]at y;cases y
 .obtain⟨_,_,cs,sz,m,_,_,D⟩:=h;refine⟨cs,sz,D,?_,?_⟩;.rw[D];exact Tr.sY _ _ _
  rw[D];rfl
 .rw[h.1]at y;cases y
 .rw[h.1]at y;cases y
def aqz(tx:pQ P ng Z7 n Z8 Tt Ht vt wt)(hi:i<Z8.size)(A:kind Z8 wt i≠2)(h3:kind Z8 wt i≠3):Ht (i+1)=Ht i:=by
 have y:Z8[i]? =some Z8[i]:=uj hi;rcases N0 tx y with h|h|h|h|h
 .exact h.2.2.2
 .exact h.2.2.2
 .exact absurd h.1 A
 .exact absurd h.1 h3
 exact h.2.2.2
theorem FW(tx:pQ P ng Z7 n Z8 Tt Ht vt wt):∀(k v:Nat) (r:Row),fE Z8 Ht wt s L k v=some r->∃i,s<=i/\i<k/\L i=true/\kind Z8 wt i=2/\v=(Ht i).next/\r.aC=v/\r.ro=false
 |0,v,r,h=>by cases h
 |k+1,v,r,h=>by
  simp only[fE]at h;split at h
  .rename_i y;by_cases e:(Ht k).next=v
   .grind[hJ,made]
   rw[fV _ e]at h;obtain⟨i,a,b,c⟩:=FW tx k v r h;exact⟨i,a,by omega,c⟩
  obtain⟨i,a,b,c⟩:=FW tx k v r h;exact⟨i,a,by omega,c⟩
theorem BR(tx:pQ P ng Z7 n Z8 Tt Ht vt wt):∀(k v:Nat),jq Z8 Ht wt s L k v=(fE Z8 Ht wt s L k v).map λ _=>[v]
 |0,v=>rfl
 |k+1,v=>by
  simp only[fE,jq];split
  .rename_i h;by_cases e:(Ht k).next=v
   .grind[made,hJ]
   rw[fV _ e,fV _ e];exact BR tx k v
  exact BR tx k v
def iQ(L:Nat->Bool)(i:Nat):Nat->Bool:=λ k=>if k=i then true else L k
theorem adw(A:gS Z7)(tx:pQ P ng Z7 n Z8 Tt Ht vt wt)(D:s<=i)(h:kind Z8 wt i=2)(F:L i=false):∀k,k<=Z8.size->
 fE Z8 Ht wt s (iQ L i) k=(if i<k then fU (fE Z8 Ht wt s L k) (Ht i).next ((Ht (i+1)).objs.get (Ht i).next)else fE Z8 Ht wt s L k)
 |0,_=>by simp[fE]
 |k+1,N=>by
  have J:=adw A tx D h F k (by omega);simp only[fE];rcases Nat.lt_trichotomy k i with M|rfl|y
  .grind[iQ]
  .grind[iQ]
  have e:iQ L i k=L k:=by simp[iQ,Nat.ne_of_gt y]
  rw[e,J,ao y,ao (show i<k+1 by omega)];split
  .rename_i Y;have K:(Ht i).next≠(Ht k).next:=by obtain⟨_,_,_,_,Z⟩:=made tx h;have:=(nU A tx k (i+1) (by omega) (by omega)).1;omega
   grind[hJ,fV]
  rfl
theorem afP(tx:pQ P ng Z7 n Z8 Tt Ht vt wt)(Z:p<=q)(hq:q<=Z8.size)(F:∀i,p<=i->i<q->kind Z8 wt i=2->L i=true)(hE:∀i,p<=i->i<q->kind Z8 wt i≠3):
 ∀k,p<=k->k<=q->gI (fE Z8 Ht wt p L k) (Ht p).objs.get=(Ht k).objs.get/\gI (jq Z8 Ht wt p L k) (Ht p).aG.get=(Ht k).aG.get:=by
 intro k A;induction k with
 |zero=>
  intro _;obtain rfl:p=0:=by omega
  exact⟨rfl,rfl⟩
 |succ k N=>
  intro hk;rcases rJ A with rfl|ab
  ·
   have e:∀m,m<=k+1->fE Z8 Ht wt (k+1) L m=(λ _=>none)/\jq Z8 Ht wt (k+1) L m=(λ _=>none):=by
    intro m;induction m with
    |zero=>intro _;exact⟨rfl,rfl⟩
    |succ m M=>grind[fE,jq]
   rw[(e (k+1) (be _)).1,(e (k+1) (be _)).2];exact⟨rfl,rfl⟩
  obtain⟨K,J⟩:=N (by omega) (by omega);simp only[fE,jq];by_cases y:kind Z8 wt k=2
  .rw[ao ⟨by omega,F k (by omega) (by omega) y,y⟩,ao ⟨by omega,F k (by omega) (by omega) y,y⟩];obtain⟨cs,sz,D,Y,_⟩:=made tx y;have g:(Ht (k+1)).objs.get=fU (Ht k).objs.get (Ht k).next ((Ht (k+1)).objs.get (Ht k).next):=by rw[Y,D];exact wc _ _ _
   have gf:(Ht (k+1)).aG.get=fU (Ht k).aG.get (Ht k).next (some [(Ht k).next]):=by rw[D];exact wc _ _ _
   rw[g,gf,<-K,<-J];grind[gI,hJ,fV]
  rw[aj (λ h=>y h.2.2),aj (λ h=>y h.2.2),aqz tx (by omega) y (hE k (by omega) (by omega))];exact⟨K,J⟩
theorem atz(tx:pQ P ng Z7 n Z8 Tt Ht vt wt)(F:p<=q):∀k,q<=k->k<=Z8.size->
 fE Z8 Ht wt p L k=gI (fE Z8 Ht wt q L k) (fE Z8 Ht wt p L q)/\jq Z8 Ht wt p L k=gI (jq Z8 Ht wt q L k) (jq Z8 Ht wt p L q):=by
 intro k y;induction k with
 |zero=>
  intro _;obtain rfl:q=0:=(by omega);obtain rfl:p=0:=(by omega);exact⟨rfl,rfl⟩
 |succ k D=>
  intro N;rcases rJ y with rfl|J
  .have e:∀m,m<=k+1->fE Z8 Ht wt (k+1) L m=(λ _=>none)/\jq Z8 Ht wt (k+1) L m=(λ _=>none):=by
    intro m;induction m with
    |zero=>intro _;exact⟨rfl,rfl⟩
    |succ m A=>grind[fE,jq]
   rw[(e (k+1) (be _)).1,(e (k+1) (be _)).2];exact⟨rfl,rfl⟩
  obtain⟨M,K⟩:=D (by omega) (by omega);simp only[fE,jq];by_cases h:L k=true/\kind Z8 wt k=2;.rw[ao ⟨by omega,h⟩,ao ⟨by omega,h⟩,ao ⟨by omega,h⟩,ao ⟨by omega,h⟩,M,K];grind[made,gI,hJ,fV]
  grind
theorem YY(a b c:Nat->Option β):gI (gI a b) c=gI a (gI b c):=by grind[gI]
end
section
variable{T T':Tr aa}
structure AW (P:Program) (ng:Nat) (Z7:aW) (n:Nat) (Z8:Array Oper) (Tt:Nat->Tr aa) (Ht:Nat->ah) (vt:Nat->aa) (wt:Nat->Bool):Prop where
 tx:pQ P ng Z7 n Z8 Tt Ht vt wt
 ok:jN P ng Z7
 grow:gS Z7
 wf:WF (Ht 0)
 apart:MZ Z8=true
 chain:∀k,kind Z8 wt k=3->∀i,i<k->(kind Z8 wt i=2\/kind Z8 wt i=3)->tb (cO Z8 k) i=true
 reads:∀j o,Z8[j]? =some o->kind Z8 wt j=1->∀p,p<=Z8.size->(p=0\/∃q,p=q+1/\kind Z8 wt q=3)->∀up,QT Z8 wt p Z8.size none up->Xb P ng Ht (cO Z8) j (Tt j) o.op (vt j) p up
def A7(ng n B:Nat)(Z8:Array Oper)(Tt:Nat->Tr aa)(Ht:Nat->ah)(vt:Nat->aa)(wt:Nat->Bool)(ρ0:cr)(w0:World)(L:Nat->Bool)(a:Act)(w:World):Prop:=
 ∃ρ p,a.defers=[]/\fi ρ n (TL n Z8 Tt vt L Z8.size) a.tmps/\p<=Z8.size/\(p=0\/∃q,p=q+1/\kind Z8 wt q=3)/\(∀q,kind Z8 wt q=3->(L q=true↔q<p))/\
  (∀i,i<Z8.size->L i=false->ju ρ (Ht i).next (Ht (i+1)).next)/\
  cp B ng (Ht 0).objs.get (Ht 0).next (Ht Z8.size).next ρ0 w0 (gI (fE Z8 Ht wt p L Z8.size) (Ht p).objs.get) (gI (jq Z8 Ht wt p L Z8.size) (Ht p).aG.get) ρ w
section
variable{P:Program}{ng n B:Nat}{Z7:aW}{Z8:Array Oper}{Tt:Nat->Tr aa}{Ht:Nat->ah}{vt:Nat->aa}{wt:Nat->Bool}
theorem ard(d:AW P ng Z7 n Z8 Tt Ht vt wt)(ab:∀i j,(L i=true)->tb (cO Z8 i) j=true->L j=true)(N:Z8[i]? =some o)(J:L i=false)
 (A:∀j,tb (cO Z8 i) j=true->L j=true) {t:Nat} (ht:t∈o.looksAt Z8):aw (TL n Z8 Tt vt L Z8.size) t=aw (Tt i) t:=by
 have hi:i<Z8.size:=by grind
 have h1:∀k,k<=i->aw (TL n Z8 Tt vt L k) t=aw (Tt k) t:=by
  intro k;induction k with
  |zero=>intro _;rfl
  |succ k M=>
   intro Y;have q:Z8[k]? =some (Z8[k]'(by omega)):=uj (by omega);rw[d.tx.tmp k _ q,zu];simp only[TL,Du,q,xu];by_cases Z:(Z8[k]'(by omega)).dst=some t
   .have K:L k=true:=by
     rcases RM d.apart (show k<i by omega) q N with h|h
     .exact A k h
     grind[Oper.apart_spec]
    grind[zu]
   grind[zu]
 have h2:∀k,i<=k->k<=Z8.size->aw (TL n Z8 Tt vt L k) t=aw (Tt i) t:=by
  intro k F;induction k with
  |zero=>grind
  |succ k M=>
   intro Y;rcases rJ F with rfl|D
   .grind
   have q:Z8[k]? =some (Z8[k]'(by omega)):=uj (by omega);simp only[TL,Du,q,xu];split
   .rename_i K;rw[zu];rw[aj];.exact M (by omega) (by omega)
    rintro⟨Z,_⟩
    rcases rJ (BD D)with rfl|y
    .rw[J]at K;cases K
    rcases RM d.apart y N q with h|h
    .grind
    grind[Oper.apart_spec]
   grind
 grind
theorem auL(d:AW P ng Z7 n Z8 Tt Ht vt wt)(K:∀i j,(L i=true)->tb (cO Z8 i) j=true->L j=true)(J:Z8[i]? =some o)(M:L i=false):
 ∀t,aw (TL n Z8 Tt vt (iQ L i) Z8.size) t=aw (cG n (TL n Z8 Tt vt L Z8.size) o.dst (vt i)) t:=by
 intro t;have hi:i<Z8.size:=by grind
 have h1:∀k,k<=i->TL n Z8 Tt vt (iQ L i) k=TL n Z8 Tt vt L k:=by
  intro k;induction k with
  |zero=>intro _;rfl
  |succ k D=>grind[iQ,TL]
 have Z:∀k,i<k->k<=Z8.size->aw (TL n Z8 Tt vt (iQ L i) k) t=aw (cG n (TL n Z8 Tt vt L k) o.dst (vt i)) t:=by
  intro k F;induction k with
  |zero=>omega
  |succ k D=>
   intro N;rcases rJ (BD F)with rfl|q
   .grind[iQ,TL,Du]
   have e:iQ L i k=L k:=by simp[iQ];omega
   have y:Z8[k]? =some (Z8[k]'(by omega)):=uj (by omega);simp only[TL,e,Du,y,xu];split
   .rename_i Y;rw[zu,zu,zu,D q (by omega),zu];by_cases A:(Z8[k]'(by omega)).dst=some t/\t<n
    .rw[ao A,ao A];rw[aj]
     rintro⟨c2,_⟩
     rcases RM d.apart q J y with h|h
     .grind
     grind[Oper.apart_spec]
    rw[aj A,aj A]
   exact D q (by omega)
 grind
def azn(h:∀t,t∈o.looksAt Z8->aw T t=aw T' t):ya ng T T' o.op.operands.toList:=by
 intro x q;cases x with
 |tmp t=>
  show some (aw T t)=some (aw T' t);rw[h t (Ej _ (List.mem_filterMap.2 ⟨.tmp t,q,rfl⟩))]
 |_=>rfl
theorem azY(h:∀t,t∈o.looksAt Z8->aw T t=aw T' t):bJ Z8.toList T o=bJ Z8.toList T' o:=by
 unfold bJ;cases q:o.guard;.rfl
 rename_i y;grind[Oper.looksAt]
end
end
section
variable{P:Program}{ng n B:Nat}{Z7:aW}{Z8:Array Oper}{Tt:Nat->Tr aa}{Ht:Nat->ah}{vt:Nat->aa}{wt:Nat->Bool}
theorem RG{s':Nat}{L':Nat->Bool}(h:∀k,kind Z8 wt k=2->((s<=k/\L k=true)↔(s'<=k/\L' k=true))):∀k,fE Z8 Ht wt s L k=fE Z8 Ht wt s' L' k/\jq Z8 Ht wt s L k=jq Z8 Ht wt s' L' k
 |0=>⟨rfl,rfl⟩
 |k+1=>by obtain⟨y,q⟩:=RG h k;grind[fE,jq]
def au6(q:gS Z7)(tx:pQ P ng Z7 n Z8 Tt Ht vt wt)(D:s<=Z8.size)(A:v<(Ht s).next):fE Z8 Ht wt s L Z8.size v=none:=by
 cases h:fE Z8 Ht wt s L Z8.size v;.rfl
 rename_i r;obtain⟨i,y,J,_,_,F,_⟩:=FW tx _ v r h;have:=(nU q tx i s y (by omega)).1;omega
theorem aci(G b:Nat->Option β)(i:Nat)(x:β):gI (fU G i (some x)) b=fU (gI G b) i (some x):=by grind[gI,hJ,fV]
theorem arz(p N:Nat):∃up,QT Z8 wt p N none up:=by
 by_cases h:∃q,p<=q/\q<N/\kind Z8 wt q=3
 .have y:∀m,(∀q,p<=q->q<m->kind Z8 wt q≠3)\/∃q,p<=q/\q<m/\kind Z8 wt q=3/\∀r,p<=r->r<q->kind Z8 wt r≠3:=by
   intro m;induction m with
   |zero=>left;intro q _ D;omega
   |succ m A=>grind
  rcases y N with F|⟨q,a,b,c,d⟩
  .grind
  exact⟨some q,.inr ⟨q,a,b,c,d,rfl⟩⟩
 exact⟨none,.inl ⟨λ q a b c=>h ⟨q,a,b,c⟩,rfl⟩⟩
theorem apP(d:AW P ng Z7 n Z8 Tt Ht vt wt){ρ0:cr}{L:Nat->Bool}{a:Act}{w:World}{Q:Exit->Act->World->Prop}
 (aj:∀i j,(L i=true)->tb (cO Z8 i) j=true->L j=true) (ho:Z8[i]? =some o) (F:L i=false) (ae:∀j,tb (cO Z8 i) j=true->L j=true)
 (inv:A7 ng n B Z8 Tt Ht vt wt ρ0 w0 L a w):wpOp P Z8 Q i (A7 ng n B Z8 Tt Ht vt wt ρ0 w0 (iQ L i)) a w:=by
 obtain⟨ρ,p,ad,hT,hp,af,av,A,y⟩:=inv;have hi:i<Z8.size:=by grind
 have Y:∀t,t∈o.looksAt Z8->aw (TL n Z8 Tt vt L Z8.size) t=aw (Tt i) t:=λ t ht=>ard d aj ho F ae ht
 have ag:=azn (ng:=ng) Y;have N:=auL d aj ho F;have hN:∀k,k<=Z8.size->gG (Ht 0) (Ht k):=λ k K=>nU d.grow d.tx k 0 (by omega) K
 have M:∀k,k<=Z8.size->WF (Ht k):=λ k K=>(hN k K).2 d.wf
 have ak:(Ht 0).next<=(Ht i).next:=(hN i (by omega)).1
 have aP:(Ht i).next<=(Ht (i+1)).next:=(agh d.grow d.tx i hi).1
 have aO:(Ht (i+1)).next<=(Ht Z8.size).next:=(nU d.grow d.tx Z8.size (i+1) hi (be _)).1
 have aA:∀j,j≠i->iQ L i j=L j:=λ j hj=>by simp[iQ,hj]
 unfold wpOp;simp only[ho];rw[<-ahS hT o,azY Y,<-d.tx.want i o ho]
 have same:∀x,kind Z8 wt i≠2->kind Z8 wt i≠3->bj ρ (vt i) x->A7 ng n B Z8 Tt Ht vt wt ρ0 w0 (iQ L i) (a.put o.dst x) w:=by
  intro x h2 h3 hx;have hg:=RG (Z8:=Z8) (Ht:=Ht) (wt:=wt) (s:=p) (s':=p) (L:=iQ L i) (L':=L) (λ k K=>by grind) Z8.size
  refine⟨ρ,p,by rw[put_defers];exact ad,(hT.put o.dst hx).congr N,hp,af,λ q hq=>?_,λ j hj hL=>?_,?_⟩;.grind
  .grind
  grind
 rcases N0 d.tx ho with⟨K,hw,hv,_⟩|⟨K,hw,hv,_⟩|⟨K,hw,cs,sz,m,hv,al,aI⟩|⟨K,hw,hv⟩|⟨K,hw,al,_⟩
 ·
  rw[hw,ao rfl];left;rw[<-axd ag]at hv;obtain⟨x,hx,J⟩:=Wm hT y.bN.iT hv;simp only[Oper.wp,J w,Oper.upon];grind
 ·
  rw[hw,ao rfl];left;obtain⟨up,am⟩:=arz (Z8:=Z8) (wt:=wt) p Z8.size
  have hr:dP P ng (Tt i) (Ht p).objs.get o.op=some (vt i):=by
   rcases d.reads i o ho K p hp af up am with⟨e,rfl,he⟩|⟨q,hq,he⟩|h
   .exfalso;rcases am with⟨_,h⟩|⟨q,h1,h2,h3,_,h5⟩
    .cases h
    grind
   .grind
   exact h
  have ar:dP P ng (Tt i) (gI (fE Z8 Ht wt p L Z8.size) (Ht p).objs.get) o.op=some (vt i):=adY (λ v r D=>by rw[CW (au6 d.grow d.tx hp ((M p hp v r D).1))];exact D) hr
  rw[<-ayP ag]at ar;obtain⟨x,hx,J⟩:=aia y.bN hT ar;simp only[Oper.wp,J,Oper.upon];grind
 ·
  rw[hw,ao rfl];left
  have Z:p<=i:=by
   rcases rK i p with h|h
   .exfalso;rcases af with h0|⟨q,hq,au⟩
    .omega
    have aV:i≠q:=λ e=>by grind
    have:=aj q i ((av q au).2 (by omega)) (d.chain q au i (by omega) (.inl K));rw[F]at this;cases this
   exact h
  rw[<-amW ag]at hv;obtain⟨C,e,aq,J⟩:=agE hT y.bN.iT hv;have aM:(Ht (i+1)).next=(Ht i).next+1:=by rw[aI];rfl
  have aN:ρ (Ht i).next=none:=A i hi F _ (be _) (by omega)
  have aS:C.size=cs.length:=by have:=lY aq;simpa using this
  have aR:∀v r,gI (fE Z8 Ht wt p L Z8.size) (Ht p).objs.get v=some r->v≠(Ht i).next/\r.aC≠(Ht i).next:=by
   intro v r D;rcases yQ D with h|⟨_,h⟩
   .obtain⟨k,h1,h2,h3,h4,h5,h6,_⟩:=FW d.tx _ v r h;have az:k≠i:=λ e=>by rw[e,F]at h3;cases h3
    have aX:(Ht (k+1)).next=(Ht k).next+1:=by obtain⟨_,_,_,_,h⟩:=made d.tx h4;exact h
    rcases aiq az with ay|aB
    .have:=(nU d.grow d.tx i (k+1) (by omega) (by omega)).1;omega
    have:=(nU d.grow d.tx k (i+1) (by omega) (by omega)).1;omega
   have h1:=M p hp v r h;have:=(nU d.grow d.tx i p Z (by omega)).1;omega
  have aH:=SG (w':=w.alloc (.cells C e)) (e:=e) y.bN aN aR cs true sz cs.length aS (be _) (λ _=>rfl) (λ j c hc=>by grind[qN]) rfl rfl rfl rfl;have ac:=aH.Kn (λ v a b=>by grind)
  have D:bj (fU ρ (Ht i).next (some ⟨w.heap.size,0,cs.length,sz⟩)) (vt i) (wS w.heap.size m (cs.length/sz)):=by
   rw[al];cases m;.exact⟨_,hJ _ _ _,rfl⟩
   rename_i k;exact⟨_,hJ _ _ _,rfl⟩
  have ap:(Ht (i+1)).objs.get (Ht i).next=some ⟨cs,(Ht i).next,0,true,false,sz⟩:=by rw[aI];exact Tr.sY _ _ _
  have aD:fE Z8 Ht wt p (iQ L i) Z8.size=fU (fE Z8 Ht wt p L Z8.size) (Ht i).next (some ⟨cs,(Ht i).next,0,true,false,sz⟩):=by rw[adw d.grow d.tx Z K F Z8.size (be _),ao hi,ap]
  have aQ:jq Z8 Ht wt p (iQ L i) Z8.size=fU (jq Z8 Ht wt p L Z8.size) (Ht i).next (some [(Ht i).next]):=by
   funext v;rw[BR d.tx,aD];by_cases e1:(Ht i).next=v
   .grind[hJ]
   rw[fV _ e1,fV _ e1,BR d.tx]
  simp only[Oper.wp,J w,Oper.upon];refine⟨fU ρ (Ht i).next (some ⟨w.heap.size,0,cs.length,sz⟩),p,by rw[put_defers];exact ad,((hT.mono ac).put o.dst D).congr N,hp,af,λ q hq=>?_,λ j hj hL=>?_,?_⟩;.grind
  .have ab:j≠i:=λ e=>by subst e;simp[iQ]at hL
   rw[aA j ab]at hL;intro v h1 h2;rw[fV _ ?_];.exact A j hj hL v h1 h2
   intro e1;rcases aiq ab with ay|aB
   .have:=(nU d.grow d.tx i (j+1) (by omega) (by omega)).1;omega
   have:=(nU d.grow d.tx j (i+1) (by omega) (by omega)).1;omega
  rw[aD,aQ,aci,aci];exact y.KP (aH.abC ak (by omega))
 ·
  rw[hw,ao rfl];left;have Z:p<=i:=by grind
  have aK:∀q,p<=q->q<i->kind Z8 wt q≠3:=λ q h1 h2 h3=>by have:=(av q h3).1 (ae q (d.chain i K q h2 (.inr h3)));omega
  have aJ:∀q,p<=q->q<i->kind Z8 wt q=2->L q=true:=λ q h1 h2 h3=>ae q (d.chain i K q h2 (.inl h3))
  obtain⟨t1,t2⟩:=afP d.tx Z (by omega) aJ aK i Z (be _);obtain⟨s1,s2⟩:=atz (L:=L) d.tx Z Z8.size (by omega) (be _);have ax:gI (fE Z8 Ht wt p L Z8.size) (Ht p).objs.get=gI (fE Z8 Ht wt i L Z8.size) (Ht i).objs.get:=by rw[s1,YY,t1]
  have aF:gI (jq Z8 Ht wt p L Z8.size) (Ht p).aG.get=gI (jq Z8 Ht wt i L Z8.size) (Ht i).aG.get:=by rw[s2,YY,t2]
  rw[ax,aF]at y
  have ai:∀v r,fE Z8 Ht wt i L Z8.size v=some r->(Ht (i+1)).next<=v/\r.aC=v/\r.ro=false:=by
   intro v r h;obtain⟨k,h1,h2,h3,h4,h5,h6,h7⟩:=FW d.tx _ v r h;have az:k≠i:=λ e=>by rw[e,K]at h4;cases h4
   have:=(nU d.grow d.tx k (i+1) (by omega) (by omega)).1;exact⟨by omega,h6,h7⟩
  have Gn:∀v,v<(Ht (i+1)).next->fE Z8 Ht wt i L Z8.size v=none:=λ v aU=>by
   cases h:fE Z8 Ht wt i L Z8.size v;.rfl
   rename_i r;have:=(ai v r h).1;omega
  have an:ez B ng ρ (Ht i).objs.get (Ht i).aG.get w.heap:=by
   refine ez.sub y.bN (λ v r D=>?_) (λ f mem hm v r D aL hf=>?_);.rw[CW (Gn v (by have:=(M i (by omega) v r D).1;omega))];exact D
   have aT:=M i (by omega) v r D;refine y.bN.aC v r mem (by grind[CW]) aL ?_;rw[CW (by rw[BR d.tx,Gn r.aC (by omega)];rfl),hf];exact hm
  rw[<-azH ag]at hv;refine Xa d.ok an (M i (by omega)) hT hv (A i hi F) (λ x ρ' w' hx hc=>?_);have ac:=hc.Kn (A i hi F);have aE:=cp.frame y.bN (λ v r h=>M i (by omega) v r h) (λ v r h=>M (i+1) hi v r h) ⟨ai⟩ aP (λ v=>BR d.tx Z8.size v) (A i hi F) hc;have hg:=RG (Z8:=Z8) (Ht:=Ht) (wt:=wt) (s:=i+1) (s':=i) (L:=iQ L i) (L':=L) (λ k aY=>by grind) Z8.size
  refine⟨ρ',i+1,by rw[put_defers];exact ad,((hT.mono ac).put o.dst hx).congr N,hi,.inr ⟨i,rfl,K⟩,λ q hq=>?_,λ j hj hL=>?_,?_⟩;.grind[iQ]
  .have ab:j≠i:=λ e=>by subst e;simp[iQ]at hL
   rw[aA j ab]at hL;intro v h1 h2;rw[hc.ext v ?_];.exact A j hj hL v h1 h2
   rintro⟨h3,h4⟩
   rcases aiq ab with ay|aB
   .have:=(nU d.grow d.tx i (j+1) (by omega) (by omega)).1;omega
   have:=(nU d.grow d.tx j (i+1) (by omega) (by omega)).1;omega
  rw[hg.1,hg.2];exact y.KP (aE.abC ak aO)
 grind[I9]
end
section
variable{a:Act}
variable{P:Program}{ng n B:Nat}{Z7:aW}{Z8:Array Oper}{Tt:Nat->Tr aa}{Ht:Nat->ah}{vt:Nat->aa}{wt:Nat->Bool}
def qi(L:Nat->Bool):Nat->Nat
 |0=>0
 |k+1=>(if L k=true then 0 else 1)+qi L k
def af8:∀{k:Nat},qi L k=0->∀i,i<k->L i=true
 |0,_,i,hi=>by omega
 |k+1,h,i,hi=>by
  simp only[qi]at h;rcases rJ (BD hi)with rfl|q
  .split at h;.assumption
   omega
  exact af8 (by omega) i q
theorem ae1{L:Nat->Bool}(hi:L i=false):∀{k:Nat},qi (iQ L i) k+(if i<k then 1 else 0)=qi L k
 |0=>by simp[qi]
 |k+1=>by have h:=ae1 (L:=L) hi (k:=k);grind[qi,iQ]
theorem aqU{e:Edge}(h:Region.binds .any e=true):Region.binds md e=true:=by grind[Region.binds]
theorem abp(d:AW P ng Z7 n Z8 Tt Ht vt wt){ρ0:cr}{w:World}(h:∀i,i<Z8.size->L i=true)(inv:A7 ng n B Z8 Tt Ht vt wt ρ0 w0 L a w):
 ∃ρ,a.defers=[]/\fi ρ n (Tt Z8.size) a.tmps/\cp B ng (Ht 0).objs.get (Ht 0).next (Ht Z8.size).next ρ0 w0 (Ht Z8.size).objs.get (Ht Z8.size).aG.get ρ w:=by
 obtain⟨ρ,p,K,hT,J,ac,ab,F,A⟩:=inv;have D:∀q,p<=q->q<Z8.size->kind Z8 wt q≠3:=λ q h1 M h3=>by grind
 obtain⟨Y,N⟩:=afP d.tx J (be _) (λ q _ M _=>h q M) D Z8.size J (be _);rw[Y,N]at A
 have ad:∀k,k<=Z8.size->TL n Z8 Tt vt L k=Tt k:=by
  intro k;induction k with
  |zero=>intro _;rfl
  |succ k Z=>
   intro hk;have y:Z8[k]? =some (Z8[k]'(by omega)):=uj (by omega);simp only[TL,h k (by omega),jz,Z (by omega),Du,y,xu];exact(d.tx.tmp k _ y).symm
 grind
theorem agP(d:AW P ng Z7 n Z8 Tt Ht vt wt){md:Region.Mode}{K:List Nat}(M:uK md Z8 K []=true){ρ0:cr}{Q:Exit->Act->World->Prop}
 (hQ:∀a w ρ,a.defers=[]->fi ρ n (Tt Z8.size) a.tmps->cp B ng (Ht 0).objs.get (Ht 0).next (Ht Z8.size).next ρ0 w0 (Ht Z8.size).objs.get (Ht Z8.size).aG.get ρ w->Q .normal a w):
 ∀(h:Nat) (listed:Array Bool) (a:Act) (w:World),listed.size=Z8.size->
  (∀i o e,listed.getD i false=true->Z8[i]? =some o->e∈o.after.toList->Region.binds .any e=true->listed.getD e.on false=true)->
  A7 ng n B Z8 Tt Ht vt wt ρ0 w0 (λ i=>listed.getD i false) a w->qi (λ i=>listed.getD i false) Z8.size<=h->wpAny P md Z8 Q h listed a w:=by
 intro h;induction h with
 |zero=>
  intro listed a w hs hc inv hf;have y:=af8 (Nat.le_zero.1 hf);refine⟨?_,?_⟩;.grind[Region.ready,List.filter_eq_nil_iff]
  obtain⟨ρ,D,J,h3⟩:=abp d y inv;exact hQ a w ρ D J h3
 |succ h ih=>
  intro listed a w hs hc inv hf;have q:∀i j,((λ i=>listed.getD i false) i=true)->tb (cO Z8 i) j=true->(λ i=>listed.getD i false) j=true:=λ i j D J=>aie (L:=λ i=>listed.getD i false=true) (λ i o e a b c f=>hc i o e a b c f) i (.inl D) j J
  refine⟨λ hr=>?_,λ i hi=>?_⟩
  .have y:∀i,i<Z8.size->listed.getD i false=true:=by
    refine acH (md:=md) (L:=λ i=>listed.getD i false) (λ i hi hl=>?_) K [] M (λ i hi=>by cases hi);have Z:Z8[i]? =some Z8[i]:=uj hi;have ag:i∉Region.ready md Z8 listed:=by rw[hr];simp
    grind[Region.ready]
   obtain⟨ρ,D,J,h3⟩:=abp d y inv;exact hQ a w ρ D J h3
  unfold Region.ready at hi;rw[Vq]at hi;obtain⟨ac,F⟩:=hi;have ab:=zD.1 ac;have Z:Z8[i]? =some Z8[i]:=uj ab;simp only[aR,Ia,Z,lA,Eh]at F;have ae:listed.getD i false=false:=by grind
  have ad:∀e,e∈(Z8[i]).after.toList->Region.binds .any e=true->listed.getD e.on false=true:=by grind[Array.all_eq_true_iff_forall_mem,aqU]
  have Y:∀j,tb (cO Z8 i) j=true->(λ i=>listed.getD i false) j=true:=aie (L:=λ i=>listed.getD i false=true) (λ i o e a b c f=>hc i o e a b c f) i (.inr λ o e D J h3=>by grind);refine wpOp_mono (λ a' w' N=>?_) (apP (Q:=Q) d q Z ae Y inv)
  have A:(λ k=>(listed.setIfInBounds i true).getD k false)=iQ (λ k=>listed.getD k false) i:=by
   funext k;unfold iQ;by_cases e:k=i;.subst e;rw[ao rfl,kW,ais (by omega)];rfl
   rw[aj e,kW,Vg (By e),<-kW]
  refine ih (listed.setIfInBounds i true) a' w' (by simpa using hs) ?_ (by rw[A];exact N) ?_;.intro k o e D J h3 h4;have af:(λ k=>(listed.setIfInBounds i true).getD k false) k=true:=D;show(λ k=>(listed.setIfInBounds i true).getD k false) e.on=true;rw[A]at af⊢;grind[iQ]
  grind[ae1]
theorem ace(ab:jN P ng Z7)(K:gS Z7){id:Nat}(F:draw=true->wj Z8=true){T T':Tr aa}{H:ah}{w:World}{Q:Exit->Act->World->Prop}
 (h:jn P ng Z7 n Z8 T H draw=some (T',H')) (s:jj B ng ρ H w) (wf:WF H) (A:ju ρ H.next H'.next) (hT:fi ρ n T a.tmps) (hd:a.defers=[])
 (hQ:∀a' w' ρ',fi ρ' n T' a'.tmps->a'.defers=[]->cp B ng H.objs.get H.next H'.next ρ w H'.objs.get H'.aG.get ρ' w'->Q .normal a' w'):(Code.region id Z8 draw).wp P Q a w:=by
 cases draw;.have h:eQ P ng Z7 n Z8.toList Z8.toList T H=some (T',H'):=h;refine wp_region ?_;have:=R2 (B:=B) (Q:=Q) ab K Z8.toList 0 T T' H H' ρ a w rfl h s wf A hT hd hQ;grind[List.range_eq_range']
 .have h:nL P ng (cO Z8) H.objs (gF P ng Z7 n Z8.toList (cO Z8) Z8.toList 0 ⟨[],[],[]⟩ T H)=some (T',H'):=h;unfold nL at h;split at h
  .rename_i S T1 H1 N;split at h
   .rename_i J;cases h;have F:=F rfl;simp only[wj,aR]at F;obtain⟨Tt,Ht,vt,wt,tx,ac,M,au,al⟩:=adN (Bh N);have Z:gF P ng Z7 n Z8.toList (cO Z8) Z8.toList 0 ⟨kL Z8 wt 0,jX Z8 Ht wt 0,lS Z8 Tt vt wt 0⟩ (Tt 0) (Ht 0)=some (S,T',H'):=by rw[ac,M];exact N
    obtain⟨hS,ai⟩:=Nk tx (cM) (iB _) Z;subst hS
    have y:∀k i,i<k->(kind Z8 wt i=2\/kind Z8 wt i=3)->i∈kL Z8 wt k:=by
     intro k;induction k with
     |zero=>intro i hi;omega
     |succ k D=>grind[kL]
    have Y:∀k j o,j<k->Z8[j]? =some o->kind Z8 wt j=1->(j,Tt j,o.op,vt j)∈lS Z8 Tt vt wt k:=by
     intro k;induction k with
     |zero=>intro j o hj;omega
     |succ k D=>
      intro j o hj ho hk;simp only[lS];rcases rJ (BD hj)with rfl|ar
      .rw[ao hk];simp[ho]
      grind
    have d:AW P ng Z7 n Z8 Tt Ht vt wt:={
     tx:=tx,ok:=ab,grow:=K,wf:=by rw[M];exact wf,apart:=F.2,
     chain:=λ k hk i ag ae=>ai k (iB _) (Hx (by rw[hk];decide)) hk i (y k i ag ae),
     reads:=λ j o ho hk p hp aq up ap=>by have af:=Hx (i:=j) (Z8:=Z8) (wt:=wt) (by rw[hk];decide);have:=Pu J _ (Y Z8.size j o af ho hk);grind[IM]}
    have am:A7 ng n B Z8 Tt Ht vt wt ρ w (λ i=>(Array.replicate Z8.size false).getD i false) a {w with drawn:=w.drawn+1}:=by
     have ak:∀i,(Array.replicate Z8.size false).getD i false=false:=by intro i;simp only[kW,Nr];split<;>rfl
     have hg:∀k,fE Z8 Ht wt 0 (λ i=>(Array.replicate Z8.size false).getD i false) k=(λ _=>none)/\jq Z8 Ht wt 0 (λ i=>(Array.replicate Z8.size false).getD i false) k=(λ _=>none):=by
      intro k;induction k with
      |zero=>exact⟨rfl,rfl⟩
      |succ k D=>grind[fE,jq]
     have aj:∀k,TL n Z8 Tt vt (λ i=>(Array.replicate Z8.size false).getD i false) k=Tt 0:=by
      intro k;induction k with
      |zero=>rfl
      |succ k D=>grind[TL]
     refine⟨ρ,0,hd,by rw[aj,ac];exact hT,iB _,.inl rfl,λ q _=>by simp[ak],λ i hi _=>?_,?_⟩;.have h1:=(nU K tx i 0 (iB _) (by omega)).1;have h2:=(nU K tx Z8.size (i+1) hi (be _)).1;rw[M]at h1;rw[al]at h2;exact A.sub h1 h2
     rw[(hg Z8.size).1,(hg Z8.size).2,M];exact{cp.refl s _ _ with bN:=s}
    have av:∀a w' ρ',a.defers=[]->fi ρ' n (Tt Z8.size) a.tmps->cp B ng (Ht 0).objs.get (Ht 0).next (Ht Z8.size).next ρ w (Ht Z8.size).objs.get (Ht Z8.size).aG.get ρ' w'->Q .normal a w':=by grind
    have ad:qi (λ i=>(Array.replicate Z8.size false).getD i false) Z8.size<=Z8.size:=by
     have:∀(L:Nat->Bool) k,qi L k<=k:=by
      intro L k;induction k with
      |zero=>exact be _
      |succ k D=>grind[qi]
     exact this _ _
    have an:∀i o e,(Array.replicate Z8.size false).getD i false=true->Z8[i]? =some o->e∈o.after.toList->Region.binds .any e=true->(Array.replicate Z8.size false).getD e.on false=true:=by intro i o e h1;simp only[kW,Nr]at h1;split at h1<;>cases h1
    grind[Region.linearise,wpAny_sound,agP,wp_region_draw,Region.schedule]
   cases h
  cases h
end
section
variable{a:Act}
variable{P:Program}{ng n B:Nat}{Z7:aW}
def nO:Code->Bool
 |.region _ Z8 draw=> !draw||wj Z8
 |.seq a b=>nO a&&nO b
 |.cond _ a b=>nO a&&nO b
 |.block _ c=>nO c
 |.loop c=>nO c
 |_=>true
def eE.up:eE->Exit
 |.normal=>.normal
 |.exit id=>.exit id
 |.ret=>.ret
def zh(P:Program)(c:Code)(Q:Exit->Act->World->Prop)(a:Act)(w:World):Prop:=∀(b:Frame) (k:List Item) (cs:List Frame),∃e h w',Q e h w'/\Arrives P (lone (b.at a (.code c::.inLoop c::k)) cs w) b k cs e h w'
def zh.wp{c:Code}{Q:Exit->Act->World->Prop}{w:World}(h:zh P c Q a w):(Code.loop c).wp P Q a w:=λ b k cs=>let⟨e,y,w',q,r⟩:=h b k cs;⟨e,y,w',q,.of_steps (.one step_loop) r⟩
def zh.round{c:Code}{Q:Exit->Act->World->Prop}{w:World}(h:c.wp P (Exit.then (zh P c Q) Q) a w):zh P c Q a w:=by
 intro b k cs;obtain⟨e,A,y,J,q⟩:=h b (.inLoop c::k) cs;cases e with
 |normal=>
  obtain⟨M,N,K,F,D⟩:=J b k cs;exact⟨M,N,K,F,.of_steps (Steps.trans q (.one step_inLoop)) D⟩
 |exit id=>exact⟨_,A,y,J,.pass (x:=.inLoop c) rfl (λ _ _=>.inl (by simp)) q⟩
 |goto l=>exact⟨_,A,y,J,.pass (x:=.inLoop c) rfl (λ _ _=>.inl (by simp)) q⟩
 |ret=>exact⟨_,A,y,J,.pass (x:=.inLoop c) rfl (λ _ _=>.inl (by simp)) q⟩
 |panic ch=>exact⟨_,A,y,J,.pass (x:=.inLoop c) rfl (λ _ _=>.inl (by simp)) q⟩
 |outgrown=>exact⟨_,A,y,J,.pass (x:=.inLoop c) rfl (λ _ _=>.inl (by simp)) q⟩
theorem AU{k:Tr aa->ah->Option mI}{r:Option mI}{x:mI}(h:iL k r=some x):(∃T H,r=some (.normal,T,H)/\k T H=some x)\/(r=some x/\x.1≠.normal):=by unfold iL at h;grind
theorem aA0(y:gS Z7){Z8:Array Oper}{T T':Tr aa}{H:ah}(h:jn P ng Z7 n Z8 T H draw=some (T',H')):gG H H':=by
 cases draw;.exact GX y (show eQ P ng Z7 n Z8.toList Z8.toList T H=some (T',H')from h)
 have h:nL P ng (cO Z8) H.objs (gF P ng Z7 n Z8.toList (cO Z8) Z8.toList 0 ⟨[],[],[]⟩ T H)=some (T',H'):=h;unfold nL at h;split at h
 .rename_i S A D q;split at h;.cases h;exact GX y (Bh q)
  cases h
 cases h
theorem vL(J:gS Z7):∀(m:Nat) (c:Code) (T:Tr aa) (H:ah) (e:eE) (T':Tr aa) (H':ah),aZ P ng Z7 n m c T H=some (e,T',H')->gG H H':=by
 intro m;induction m with
 |zero=>intro c T H e T' H' h;cases h
 |succ m y=>
  intro c T H e T' H' h;cases c with
  |skip=>cases h;exact gG.refl _
  |region id Z8 d=>
   change px (jn P ng Z7 n Z8 T H d)=_ at h;unfold px at h;grind[aA0]
  |seq a b=>
   change iL (aZ P ng Z7 n m b) (aZ P ng Z7 n m a T H)=_ at h;rcases AU h with⟨A,D,q,F⟩|⟨q,_⟩
   .exact(y a T H _ A D q).trans (y b A D e T' H' F)
   exact y a T H e T' H' q
  |cond x a b=>
   change mq (aZ P ng Z7 n m a T H) (aZ P ng Z7 n m b T H) (aU ng T x)=_ at h;unfold mq at h;grind
  |block id a=>
   change kR id (aZ P ng Z7 n m a T H)=_ at h;unfold kR at h;grind
  |loop a=>
   change iL (aZ P ng Z7 n m (.loop a)) (aZ P ng Z7 n m a T H)=_ at h;rcases AU h with⟨A,D,q,F⟩|⟨q,_⟩
   .exact(y a T H _ A D q).trans (y (.loop a) A D e T' H' F)
   exact y a T H e T' H' q
  |exit id=>cases h;exact gG.refl _
  |ret=>cases h;exact gG.refl _
  |_=>cases h
theorem abI(ak:jN P ng Z7)(ad:gS Z7):∀(m:Nat),(∀(c:Code) (T:Tr aa) (H:ah) (e:eE) (T':Tr aa) (H':ah),aZ P ng Z7 n m c T H=some (e,T',H')->nO c=true->
 ∀(ρ:cr) (a:Act) (w:World) (Q:Exit->Act->World->Prop),jj B ng ρ H w->WF H->ju ρ H.next H'.next->fi ρ n T a.tmps->a.defers=[]->
 (∀F w' ρ',fi ρ' n T' F.tmps->F.defers=[]->cp B ng H.objs.get H.next H'.next ρ w H'.objs.get H'.aG.get ρ' w'->Q e.up F w')->c.wp P Q a w)/\
 (∀(c:Code) (T:Tr aa) (H:ah) (e:eE) (T':Tr aa) (H':ah),aZ P ng Z7 n m (.loop c) T H=some (e,T',H')->nO c=true->
  ∀(ρ:cr) (a:Act) (w:World) (Q:Exit->Act->World->Prop),jj B ng ρ H w->WF H->ju ρ H.next H'.next->fi ρ n T a.tmps->a.defers=[]->
  (∀F w' ρ',fi ρ' n T' F.tmps->F.defers=[]->cp B ng H.objs.get H.next H'.next ρ w H'.objs.get H'.aG.get ρ' w'->Q e.up F w')->zh P c Q a w):=by
 intro m;induction m with
 |zero=>exact⟨(λ c T H e T' H' h=>by cases h),(λ c T H e T' H' h=>by cases h)⟩
 |succ m ih=>
  obtain⟨J,aj⟩:=ih
  have loops:∀(c:Code) (T:Tr aa) (H:ah) (e:eE) (T':Tr aa) (H':ah),aZ P ng Z7 n (m+1) (.loop c) T H=some (e,T',H')->nO c=true->
   ∀(ρ:cr) (a:Act) (w:World) (Q:Exit->Act->World->Prop),jj B ng ρ H w->WF H->ju ρ H.next H'.next->fi ρ n T a.tmps->a.defers=[]->
   (∀F w' ρ',fi ρ' n T' F.tmps->F.defers=[]->cp B ng H.objs.get H.next H'.next ρ w H'.objs.get H'.aG.get ρ' w'->Q e.up F w')->zh P c Q a w:=by
   intro c T H e T' H' h q ρ a w Q s wf Z M N Y;change iL (aZ P ng Z7 n m (.loop c)) (aZ P ng Z7 n m c T H)=_ at h;refine zh.round ?_;rcases AU h with⟨T1,H1,h1,h2⟩|⟨h1,hn⟩
   .have g1:=vL ad m c T H _ T1 H1 h1;have g2:=vL ad m (.loop c) T1 H1 e T' H' h2;refine J c T H _ T1 H1 h1 q ρ a w _ s wf (Z.sub (be _) g2.1) M N (λ F w' ρ' D A K=>?_);exact aj c T1 H1 e T' H' h2 q ρ' F w' Q K.bN (g1.2 wf) (Z.CN K g1.1) D A (λ ai af ab ae ac ag=>Y ai af ab ae ac (K.trans ag g1.1 g2.1))
   .refine J c T H e T' H' h1 q ρ a w _ s wf Z M N (λ F w' ρ' D A K=>?_);have:=Y F w' ρ' D A K;cases e with
    |normal=>exact absurd rfl hn
    |exit id=>exact this
    |ret=>exact this
  refine⟨?_,loops⟩;intro c T H e T' H' h q ρ a w Q s wf Z M N Y;cases c with
  |skip=>cases h;exact wp_skip (Y a w ρ M N (cp.refl s _ _))
  |region id Z8 d=>
   change px (jn P ng Z7 n Z8 T H d)=_ at h;unfold px at h;split at h;.rename_i T1 H1 hr;cases h;refine ace ak ad (λ am=>?_) hr s wf Z M N Y;grind[nO]
   cases h
  |seq x y=>
   change iL (aZ P ng Z7 n m y) (aZ P ng Z7 n m x T H)=_ at h;simp only[nO,aR]at q;refine wp_seq ?_;rcases AU h with⟨T1,H1,h1,h2⟩|⟨h1,hn⟩
   .have g1:=vL ad m x T H _ T1 H1 h1;have g2:=vL ad m y T1 H1 e T' H' h2;refine J x T H _ T1 H1 h1 q.1 ρ a w _ s wf (Z.sub (be _) g2.1) M N (λ F w' ρ' D A K=>?_);exact J y T1 H1 e T' H' h2 q.2 ρ' F w' Q K.bN (g1.2 wf) (Z.CN K g1.1) D A (λ ai af ab ae ac ag=>Y ai af ab ae ac (K.trans ag g1.1 g2.1))
   refine J x T H e T' H' h1 q.1 ρ a w _ s wf Z M N (λ F w' ρ' D A K=>?_);have:=Y F w' ρ' D A K;cases e with
   |normal=>exact absurd rfl hn
   |exit id=>exact this
   |ret=>exact this
  |cond x y z=>
   change mq (aZ P ng Z7 n m y T H) (aZ P ng Z7 n m z T H) (aU ng T x)=_ at h;simp only[nO,aR]at q;unfold mq at h;split at h;.rename_i hx;exact wp_cond_true (fP M s.iT hx) (J y T H e T' H' h q.1 ρ a w Q s wf Z M N Y)
   .rename_i hx;exact wp_cond_false (fP M s.iT hx) (J z T H e T' H' h q.2 ρ a w Q s wf Z M N Y)
   cases h
  |block id x=>
   change kR id (aZ P ng Z7 n m x T H)=_ at h;simp only[nO]at q;refine wp_block ?_;unfold kR at h;split at h
   .rename_i j T1 H1 h1;split at h;.rename_i hj;have hj:=beq_true hj;cases h;refine J x T H _ _ _ h1 q ρ a w _ s wf Z M N (λ F w' ρ' D A K=>?_);show Exit.inBlock id Q (.exit j) F w';simp only[Exit.inBlock,hj,jz];exact Y F w' ρ' D A K
    rename_i hj;have hj:=beq_false hj;cases h;refine J x T H _ _ _ h1 q ρ a w _ s wf Z M N (λ F w' ρ' D A K=>?_);show Exit.inBlock id Q (.exit j) F w';simp only[Exit.inBlock,hj,qv];exact Y F w' ρ' D A K
   rename_i al;refine J x T H e T' H' h q ρ a w _ s wf Z M N (λ F w' ρ' D A K=>?_);have:=Y F w' ρ' D A K;cases e with
   |normal=>exact this
   |exit j=>exact absurd h (al j T' H')
   |ret=>exact this
  |loop x=>
   simp only[nO]at q;exact(loops x T H e T' H' h q ρ a w Q s wf Z M N Y).wp
  |exit id=>cases h;exact wp_exit (Y a w ρ M N (cp.refl s _ _))
  |ret=>cases h;exact wp_ret (Y a w ρ M N (cp.refl s _ _))
  |_=>cases h
end
section
variable{args:List aa}{sm:DO}
variable{P:Program}{ng B:Nat}
theorem ah0:∀(vs:List aa) (i:Nat) (T:Tr aa) (j:Nat),aw (fH vs i T) j=if i<=j/\j<i+vs.length then(vs[j-i]?).getD (.tuple [])else aw T j
 |[],i,T,j=>by grind[fH]
 |v::vs,i,T,j=>by simp only[fH];rw[ah0 vs (i+1) _ j];grind[yV,Tr.fT]
theorem Of{q:List Value}(h:cJ ρ args q)(k:Nat):fi ρ (args.length+k) (fH args 0 .nil) (⟨q⟩++Array.replicate k undef):=by
 have y:=lY h;refine⟨by simp[y],λ i=>?_⟩;rw[ah0];rw[kW];by_cases hi:i<args.length;.grind[qN]
 rw[aj (by omega)];have A:aw (Tr.nil:Tr aa) i=.tuple []:=rfl;grind[I9]
def Bk(tmps:Array Value):ResultVar->Sem Value
 |.tmp t=>pure (tmps.getD t undef)
 |.cell a t=>do loadVar t (<-asAddr (tmps.getD a undef))
theorem Gg{n:Nat}{y:Nat->Option Row}{aC:Nat->Option (List Nat)}{w:World}(s:ez B ng ρ y aC w.heap){T:Tr aa}{tmps:Array Value}(A:fi ρ n T tmps):∀{rs:List ResultVar} {l:List aa},
 jL P y T rs=some l->∃vs,cJ ρ l vs/\(rs.mapM (Bk tmps)).run P w=.ok vs w
 |[],l,h=>by cases h;exact⟨[],rfl,by simp⟩
 |.tmp t::rs,l,h=>by
  simp only[jL]at h;split at h;.rename_i l' F;cases h;obtain⟨vs,J,N⟩:=Gg s A F;refine⟨tmps.getD t undef::vs,dg.2 ⟨_,_,rfl,A.get t,J⟩,?_⟩;grind[Sem.run_bind,Bk,Sem.run_pure,Result.andThen_ok]
  cases h
 |.cell x t::rs,l,h=>by
  simp only[jL]at h;split at h
  .rename_i v l' D F;cases h;obtain⟨vs,J,N⟩:=Gg s A F;obtain⟨r,Y,K⟩:=ahr s (A.get x) D;refine⟨r::vs,dg.2 ⟨_,_,rfl,Y,J⟩,?_⟩
   have q:(Bk tmps (.cell x t)).run P w=.ok r w:=by
    have M:=A.get x;unfold de at D;split at D;.rename_i u off Z;rw[Z]at M;obtain⟨lc,_,he⟩:=M;grind[Instr.loadAt,Instr.sureAddr,Bk,asAddr]
    cases D
   simp only[List.mapM_cons,Sem.run_bind,q,Result.andThen_ok];rw[N];rfl
  cases h
def jJ:List aa->aa
 |[v]=>v
 |l=>.tuple l
def IF:List Value->Value
 |[v]=>v
 |l=>.tuple ⟨l⟩
def N3{tmps:Array Value}{w:World}{vs:List Value}(h:(fn.results.toList.mapM (Bk tmps)).run P w=.ok vs w):
 (results fn tmps).run P w=.ok (IF vs) w:=by
 have e:(fn.results.mapM (Bk tmps)).run P w=.ok vs.toArray w:=by generalize fn.results=rs at h;obtain⟨rl⟩:=rs;simp_all
 have q:results fn tmps=(do let vs<-fn.results.mapM (Bk tmps);pure (if h:vs.size=1 then vs[0]else .tuple vs):Sem Value):=by
  unfold results
  congr 1
 rw[q,Sem.run_bind,e]
 match vs with
 |[]=>rfl
 |[v]=>rfl
 |v::u::vs=>simp[Sem.run_pure];rfl
def DD(P:Program)(ng:Nat)(sm:DO):Prop:=∀f args H v,sm f args H=some v->∀B ρ w h,jj B ng ρ H w->WF H->cJ ρ args h->Calls P f ⟨h⟩ w (λ e w'=>∃x,e=.returned x/\bj ρ v x/\cp B ng H.objs.get H.next H.next ρ w H.objs.get H.aG.get ρ w')
def sK(P:Program):Prop:=∀(f:FuncId) (fn:Func) (c:Code),P.funcs[f]? =some fn->fn.body=some c->nO c=true
theorem abc(sm:DO)(m:Nat)(f:FuncId)(args:List aa)(H:ah):
 uV P ng sm (m+1) f args H=(match sm f args H with|some v=>some (v,H)|none=>(match P.funcs[f]?with|some fn=>EZ P ng (uV P ng sm m) args H fn|none=>none)):=by
 show Option.rec (motive:=λ _=>Option (aa×ah))
  (Option.rec (motive:=λ _=>Option (aa×ah)) none (λ fn=>EZ P ng (uV P ng sm m) args H fn) (P.funcs[f]?))
  (λ v=>some (v,H)) (sm f args H)=_
 cases sm f args H;.cases P.funcs[f]? <;>rfl
 .rename_i v;rfl
theorem aev{H:ah}{v:aa}(h:EZ P ng Z7 args H fn=some (v,H')):
 ∃c e T l,fn.body=some c/\aZ P ng Z7 (args.length+(fn.ntmps-args.length)) 1000000 c (fH args 0 .nil) H=some (e,T,H')/\(∀id,e≠.exit id)/\jL P H'.objs.get T fn.results.toList=some l/\v=jJ l:=by
 unfold EZ at h;cases J:fn.body;.rw[J]at h;cases h
 .rename_i c;rw[J]at h;have h:QM P fn (aZ P ng Z7 (args.length+(fn.ntmps-args.length)) 1000000 c (fH args 0 .nil) H)=some (v,H'):=h;generalize F:aZ P ng Z7 (args.length+(fn.ntmps-args.length)) 1000000 c (fH args 0 .nil) H=r at h;unfold QM at h;split at h;.cases h
  .rename_i e T N q;split at h;.rename_i M A;cases h;exact⟨c,e,T,[v],rfl,F,λ id D=>q id (by rw[D]),A,rfl⟩
   .rename_i l K A;cases h;refine⟨c,e,T,l,rfl,F,λ id D=>q id (by rw[D]),A,?_⟩
    match l with
    |[]=>rfl
    |[x]=>exact absurd rfl (K x)
    |x::y::l=>rfl
   cases h
  cases h
theorem ak3:∀m,gS (uV P ng sm m):=by
 intro m;induction m with
 |zero=>intro f args H v H' h;cases h
 |succ m q=>
  intro f args H v H' h;grind[abc,gG.refl,aev,vL]
def Wv(ad:DD P ng sm)(ac:sK P):∀m,jN P ng (uV P ng sm m):=by
 intro m;induction m with
 |zero=>intro f args H v H' h;cases h
 |succ m ih=>
  intro f args H v H' h B ρ w xs s wf N A;rw[abc]at h;split at h;.rename_i v' hv;cases h;refine(ad f args H v hv B ρ w xs s wf A).mono λ e w' ⟨x,he,hx,hc⟩=>⟨x,ρ,he,hx,hc⟩
  split at h
  .rename_i fn hf;obtain⟨c,e,T,l,hb,af,ae,K,rfl⟩:=aev h;have Z:xs.length=args.length:=lY A;refine calls_of_wp hf hb ?_;have ab:(⟨xs⟩:Array Value).size=args.length:=by simpa using Z
   rw[ab];refine(abI (B:=B) ih (ak3 m) 1000000).1 c _ H e T H' af (ac f fn c hf hb) ρ _ w _ s wf N (Of A _) rfl ?_;intro a' w' ρ' hT hd hc;obtain⟨vs,q,J⟩:=Gg (P:=P) hc.bN hT K;have hr:=N3 J
   have Y:bj ρ' (jJ l) (IF vs):=by
    clear hr J K h
    match l,q with
    |[],q=>obtain rfl:=nH.1 q;exact⟨[],rfl,rfl⟩
    |[x],q=>
     obtain⟨y,ys,rfl,hy,M⟩:=dg.1 q;obtain rfl:=nH.1 M;exact hy
    |x::y::l,q=>
     obtain⟨x',ys,rfl,hx,M⟩:=dg.1 q;obtain⟨y',zs,rfl,hy,ag⟩:=dg.1 M;exact⟨_,rfl,q⟩
   have D:a'.defers=[]/\∃v,(results fn a'.tmps).run P w'=.ok v w'/\∃x F,Ending.returned v=.returned x/\bj F (jJ l) x/\cp B ng H.objs.get H.next H'.next ρ w H'.objs.get H'.aG.get F w':=⟨hd,_,hr,_,ρ',rfl,Y,hc⟩;cases e with
   |normal=>exact D
   |ret=>exact D
   |exit id=>exact absurd rfl (ae id)
  cases h
end
abbrev MP:=List (Nat×Nat×Nat)
def qC(m:MP)(c:Nat):Option (Nat×Nat):=List.rec (motive:=λ _=>Option (Nat×Nat)) none (λ p _ h=>Bool.rec (motive:=λ _=>Option (Nat×Nat)) h (some p.2) (Nat.beq p.1 c)) m
def NQ:Option Nat->Option Nat->Bool
 |none,none=>true
 |some a,some b=>Nat.beq a b
 |_,_=>false
def Kt:Int->Int->Bool
 |.ofNat a,.ofNat b=>Nat.beq a b
 |.negSucc a,.negSucc b=>Nat.beq a b
 |_,_=>false
def AG:List UInt8->List UInt8->Bool
 |[],[]=>true
 |a::Z9,b::bs=>Nat.beq a.toNat b.toNat&&AG Z9 bs
 |_,_=>false
def LN(b:Bool)(m:MP):Option MP:=match b with|true=>some m|false=>none
def yv(f:MP->aa->aa->Option MP):List aa->List aa->MP->Option MP
 |[],[],m=>some m
 |c::cs,a::Z9,m=>match f m c a with|some h=>yv f cs Z9 h|none=>none
 |_,_,_=>none
def NY(f:MP->aa->aa->Option MP)(q y:Nat->Option Row)(m:MP)(c a off:Nat):Option MP:=
 match qC m c with
 |some _=>none
 |none=>
  match q c,y a with
  |some rc,some h=>
   match Nat.beq rc.sz h.sz,rc.exact,rc.ro,Nat.ble (off+rc.cells.length) h.cells.length with
   |true,false,true,true=>yv f rc.cells ((h.cells.drop off).take rc.cells.length) ((c,a,off)::m)
   |_,_,_,_=>none
  |_,_=>none
def mV(h q:Nat->Option Row):Nat->MP->aa->aa->Option MP
 |0,_,_,_=>none
 |k+1,m,c,a=>
  match c,a with
  |.bool x,.bool y=>LN (x==y) m
  |.int j x,.int M y=>LN (decide (j=M)&&Kt x y) m
  |.str x,.str y=>LN (AG x y) m
  |.nilPtr,.nilPtr=>some m
  |.ai,.ai=>some m
  |.nilFunc,.nilFunc=>some m
  |.slice v o n l,.slice F J K l'=>
   match Nat.beq n K,NQ l l',Nat.beq o 0 with
   |true,true,true=>NY (mV h q k) h q m v F J
   |_,_,_=>none
  |.agg D,.agg A=>yv (mV h q k) D A m
  |_,_=>none
structure qt where
 f:FuncId
 args:List aa
 rows:List (Nat×Row)
 next:Nat
 res:aa
def MC:List (Nat×Row)->Tr Row
 |[]=>.nil
 |p::ps=>(MC ps).set p.1 (some p.2)
def qt.H(S:qt):ah:=⟨MC S.rows,.nil,S.next⟩
def aa.plain:aa->Bool
 |.bool _=>true
 |.int .. =>true
 |.str _=>true
 |.nilPtr=>true
 |.ai=>true
 |_=>false
def aa.TR:aa->Bool
 |.tuple vs=>vs.all aa.plain
 |v=>v.plain
def Ga(S:qt)(args:List aa)(H:ah):Option aa:=
 match yv (mV S.H.objs.get H.objs.get 100) S.args args []with
 |some m=>match S.rows.all (λ i=>(qC m i.1).isSome)with|true=>some S.res|false=>none
 |none=>none
def uo(tab:List qt):DO:=λ f args H=>List.rec (motive:=λ _=>Option aa) none (λ S _ h=>Bool.rec (motive:=λ _=>Option aa) h (Option.rec (motive:=λ _=>Option aa) h (λ v=>some v) (Ga S args H)) (Nat.beq S.f f)) tab
section
variable{m m':MP}
theorem Qt(p:Nat×Nat×Nat)(m:MP)(c:Nat):qC (p::m) c=if p.1=c then some p.2 else qC m c:=by
 show Bool.rec (motive:=λ _=>Option (Nat×Nat)) (qC m c) (some p.2) (Nat.beq p.1 c)=_;cases e:Nat.beq p.1 c;.rw[aj (beq_false e)]
 rw[ao (beq_true e)]
def ano{a b:Option Nat}(h:NQ a b=true):a=b:=by cases a<;>cases b<;>simp only[NQ]at h<;>first|rfl|cases h|rw[beq_true h]
theorem ZR(h:Kt a b=true):a=b:=by cases a<;>cases b<;>simp only[Kt]at h<;>first|cases h|rw[beq_true h]
theorem Qx:∀{a b:List UInt8},AG a b=true->a=b
 |[],[],_=>rfl
 |a::Z9,b::bs,h=>by simp only[AG,aR]at h;rw[Qx h.2,UInt8.toNat_inj.1 (beq_true h.1)]
 |[],_::_,h=>by simp[AG]at h
 |_::_,[],h=>by simp[AG]at h
def Po{b:Bool}(h:LN b m=some m'):b=true/\m'=m:=by
 cases b;.cases h
 cases h;exact⟨rfl,rfl⟩
def tz(m m':MP):Prop:=∀c p,qC m c=some p->qC m' c=some p
theorem tz.refl(m:MP):tz m m:=λ _ _ h=>h
def tz.trans{a b c:MP}(h:tz a b)(k:tz b c):tz a c:=λ x p e=>k x p (h x p e)
def wZ(ng:Nat)(ρ:cr)(M:MP):cr:=λ c=>if c<ng then ρ c else
 match qC M c with
 |some (a,off)=>match ρ a with|some l=>some ⟨l.bC,l.off+off,l.cap-off,l.sz⟩|none=>none
 |none=>none
def ahQ(ng B:Nat)(ρ:cr)(h:Array Obj)(gc:Nat->Option Row)(M:MP)(c:Nat):Prop:=∃rc l C e fz,gc c=some rc/\rc.ro=true/\wZ ng ρ M c=some l/\h[l.bC]? =some (.cells C e fz)/\wM B (wZ ng ρ M) rc l C fz
def qg(ng B:Nat)(ρ:cr)(h:Array Obj)(gc:Nat->Option Row)(m m':MP)(R:cr->Prop):Prop:=tz m m'/\∀M,tz m' M->R (wZ ng ρ M)/\∀c p,qC m' c=some p->qC m c=some p\/ahQ ng B ρ h gc M c
def qg.same{ng B:Nat}{ρ:cr}{h:Array Obj}{gc:Nat->Option Row}{R:cr->Prop}(k:∀r,R r):qg ng B ρ h gc m m R:=⟨tz.refl m,λ _ _=>⟨k _,λ _ _ e=>.inl e⟩⟩
section
variable{ng B B':Nat}{ρ:cr}{h:Array Obj}{gc ga:Nat->Option Row}{aC:Nat->Option (List Nat)}
theorem J6{f:MP->aa->aa->Option MP}(A:∀m c a m',f m c a=some m'->qg ng B ρ h gc m m' (λ r=>∀x,bj ρ a x->bj r c x)):
 ∀(cs Z9:List aa) (m m':MP),yv f cs Z9 m=some m'->qg ng B ρ h gc m m' (λ r=>∀q,cJ ρ Z9 q->cJ r cs q)
 |[],[],m,m',e=>by cases e;exact qg.same λ _ _ h=>h
 |c::cs,a::Z9,m,m',e=>by
  simp only[yv]at e;split at e;.rename_i F N;obtain⟨D,J⟩:=A _ _ _ _ N;obtain⟨y,Y⟩:=J6 A cs Z9 F m' e;refine⟨D.trans y,λ M K=>?_⟩;obtain⟨a1,b1⟩:=J M (y.trans K);grind[dg]
  cases e
 |[],_::_,_,_,e=>by simp[yv]at e
 |_::_,[],_,_,e=>by simp[yv]at e
theorem azD(s:ez B' ng ρ ga aC h)(ag:∀c r,gc c=some r->ng<=c)
 {f:MP->aa->aa->Option MP} (hf:∀m c a m',f m c a=some m'->qg ng B ρ h gc m m' (λ r=>∀x,bj ρ a x->bj r c x)) {c a:Nat} (e:NY f gc ga m c a off=some m'):
 qg ng B ρ h gc m m' (λ r=>∃l,ρ a=some l/\r c=some ⟨l.bC,l.off+off,l.cap-off,l.sz⟩):=by
 unfold NY at e;split at e;.cases e
 .rename_i af;split at e
  .rename_i rc ra hc ha;split at e
   .rename_i K aj N D;have D:=gT D;have K:=beq_true K;obtain⟨l,C,t,fz,hl,hb,ok⟩:=s.row a ra ha;obtain⟨s1,k1⟩:=J6 hf _ _ _ _ e;have al:=ag c rc hc;have ab:tz m ((c,a,off)::m):=λ x p Z=>by grind[Qt]
    refine⟨ab.trans s1,λ M hM=>?_⟩;obtain⟨a1,b1⟩:=k1 M hM;have ai:qC M c=some (a,off):=hM _ _ (s1 _ _ (by rw[Qt];simp));have Y:wZ ng ρ M c=some ⟨l.bC,l.off+off,l.cap-off,l.sz⟩:=by grind[wZ]
    have ap:=ok.len;have ao:=ok.cap;refine⟨⟨l,hl,Y⟩,λ c' p hp=>?_⟩;rcases b1 c' p hp with hp|hp
    .rw[Qt]at hp;split at hp
     .rename_i e1;simp at e1;subst e1;right;refine⟨rc,_,C,t,fz,hc,N,Y,hb,⟨by simp only;omega,by simp only;omega,λ J=>(by rw[aj]at J;cases J),by simp only;rw[ok.sz,K],λ J=>(by rw[N]at J;cases J),λ J=>(by rw[N]at J;cases J),λ i cc ak=>?_⟩⟩;have hi:i<rc.cells.length:=(mR.1 ak).1
      have am:∃A,cJ ρ ((ra.cells.drop off).take rc.cells.length) A/\∀j x,A[j]? =some x->C[l.off+off+j]? =some x:=by
       have ac:∀(n:Nat) (cs:List aa) (o:Nat),cs.length=n->(∀j (c:aa),cs[j]? =some c->∃x,C[o+j]? =some x/\bj ρ c x)->∃A,cJ ρ cs A/\∀j x,A[j]? =some x->C[o+j]? =some x:=by
        intro n;induction n with
        |zero=>intro cs o y _;obtain rfl:=km y;exact⟨[],rfl,λ j x Z=>by simp at Z⟩
        |succ n ih=>
         intro cs o y F
         match cs,y with
         |c0::cs,y=>
          obtain⟨x0,an,ae⟩:=F 0 c0 (by simp);obtain⟨A,ad,hj⟩:=ih cs (o+1) (by simpa using y) (λ j c q=>by obtain⟨x,Z,hr⟩:=F (j+1) c (by simpa using q);grind)
          refine⟨x0::A,dg.2 ⟨x0,A,rfl,ae,ad⟩,λ j x Z=>?_⟩;grind
       refine ac _ _ (l.off+off) rfl λ j c q=>?_
       rw[qw]at q;split at q;.rw[zF]at q;obtain⟨x,Z,hr⟩:=ok.cells _ _ q;grind
       cases q
      grind[qN]
     exact .inl hp
    exact .inr hp
   cases e
  cases e
def UU(s:ez B' ng ρ ga aC h)(A:∀c r,gc c=some r->ng<=c):∀(k:Nat) (m:MP) (c a:aa) (m':MP),mV gc ga k m c a=some m'->
 qg ng B ρ h gc m m' (λ r=>∀x,bj ρ a x->bj r c x)
 |0,_,_,_,_,e=>by cases e
 |k+1,m,c,a,m',e=>by
  unfold mV at e;split at e;.obtain⟨q,rfl⟩:=Po e;have q:=eq_of_beq q;subst q;exact qg.same λ _ _ h=>h
  .obtain⟨q,rfl⟩:=Po e;simp only[aR,Ek]at q;obtain⟨q,D⟩:=q;have D:=ZR D;subst q D;exact qg.same λ _ _ h=>h
  .obtain⟨q,rfl⟩:=Po e;have q:=Qx q;subst q;exact qg.same λ _ _ h=>h
  .cases e;exact qg.same λ _ _ h=>h
  .cases e;exact qg.same λ _ _ h=>h
  .cases e;exact qg.same λ _ _ h=>h
  .rename_i v o n l v' o' n' l';split at e
   .rename_i hn hl ho;obtain rfl:=beq_true hn;obtain rfl:=ano hl;obtain rfl:=beq_true ho;obtain⟨J,K⟩:=azD (B:=B) s A (UU s A k) e;refine⟨J,λ M N=>?_⟩;obtain⟨⟨lc,q,D⟩,b1⟩:=K M N;refine⟨λ x F=>?_,b1⟩;cases l;.obtain⟨l',y,rfl⟩:=F;rw[q]at y;cases y;exact⟨_,D,rfl⟩
    rename_i cc;obtain⟨l',y,rfl⟩:=F;rw[q]at y;cases y;exact⟨_,D,rfl⟩
   cases e
  .rename_i xs ys;obtain⟨J,K⟩:=J6 (B:=B) (UU s A k) _ _ _ _ e;refine⟨J,λ M N=>?_⟩;obtain⟨a1,b1⟩:=K M N;refine⟨λ x F=>?_,b1⟩;obtain⟨Y,rfl,Z⟩:=F;exact⟨Y,rfl,a1 Y Z⟩
  cases e
end
def Fv:∀{rows:List (Nat×Row)} {i:Nat} {r:Row},(MC rows).get i=some r->(i,r)∈rows
 |[],_,_,h=>by cases h
 |p::ps,i,r,h=>by
  simp only[MC]at h;rw[Tr.fT]at h;split at h;.rename_i e;cases h;subst e;simp
  exact cz _ (Fv h)
def qt.ok(ng:Nat)(S:qt):Bool:=S.rows.all (λ p=>Nat.ble ng p.1&&Nat.ble (p.1+1) S.next&&Nat.ble (p.2.aC+1) S.next)&&Nat.ble ng S.next&&S.res.TR
theorem Uh{ρ:cr}:∀{a:aa} {x:Value},a.plain=true->bj ρ' a x->bj ρ a x:=by intro a x y q;cases a<;>simp[aa.plain]at y<;>exact q
def WQ{ρ:cr}:∀{Z9:List aa} {A:List Value},Z9.all aa.plain=true->cJ ρ' Z9 A->cJ ρ Z9 A
 |[],_,_,h=>h
 |a::Z9,_,q,h=>by simp only[ug,aR]at q;obtain⟨y,D,rfl,F,k⟩:=dg.1 h;exact dg.2 ⟨y,D,rfl,Uh q.1 F,WQ q.2 k⟩
def adJ{ρ:cr}{a:aa}{x:Value}(q:a.TR=true)(h:bj ρ' a x):bj ρ a x:=by
 cases a with
 |tuple vs=>obtain⟨y,rfl,k⟩:=h;exact⟨y,rfl,WQ q k⟩
 |_=>exact Uh q h
theorem ez.kept{B ng:Nat}{ρ:cr}{q:Nat->Option Row}{aC:Nat->Option (List Nat)}{h y:Array Obj}(s:ez B ng ρ q aC h)(F:h.size<=y.size)(N:∀b,b<h.size->y[b]? =h[b]?):ez B ng ρ q aC y where
 base:=fX s.base F
 iT:=s.iT
 row:=λ v r A=>by obtain⟨l,D,t,K,M,J,ok⟩:=s.row v r A;grind
 sep:=s.sep
 aC:=s.aC
theorem as6{ng:Nat}(hc:jN P ng Z7){S:qt}(hS:S.ok ng=true)(ae:Z7 S.f S.args S.H=some (S.res,H'))
 {args:List aa} {H:ah} {v:aa} (ht:Ga S args H=some v):∀B ρ w xs,jj B ng ρ H w->cJ ρ args xs->Calls P S.f ⟨xs⟩ w (λ e w'=>∃x,e=.returned x/\bj ρ v x/\cp B ng H.objs.get H.next H.next ρ w H.objs.get H.aG.get ρ w'):=by
 intro B ρ w xs s ad;simp only[qt.ok,aR,ij]at hS;obtain⟨⟨ab,Z⟩,M⟩:=hS;have Z:=gT Z;have Y:∀c r,S.H.objs.get c=some r->ng<=c/\c<S.next/\r.aC<S.next:=λ c r K=>by obtain⟨⟨h1,h2⟩,h3⟩:=ab _ (Fv K);exact⟨gT h1,gT h2,gT h3⟩
 unfold Ga at ht;split at ht
 .rename_i m hm;split at ht
  .rename_i J;cases ht;obtain⟨_,k⟩:=J6 (B:=w.heap.size) (UU s (λ c r K=>(Y c r K).1) 100) _ _ _ _ hm;obtain⟨a1,b1⟩:=k m (tz.refl m)
   have F:∀c p,qC m c=some p->ahQ ng w.heap.size ρ w.heap S.H.objs.get m c:=λ c p hp=>by
    rcases b1 c p hp with h|h
    .cases h
    exact h
   have N:jj w.heap.size ng (wZ ng ρ m) S.H w:={
    base:=be _
    iT:=λ g hg=>by obtain⟨c,z,e⟩:=s.iT g hg;grind[wZ]
    row:=λ c r K=>by have A:=Fv K;have q:=ij.1 J _ A;obtain⟨p,hp⟩:=pI.1 q;obtain⟨rc,l,C,e,fz,h1,_,h2,h3,h4⟩:=F _ _ hp;grind
    sep:=λ u v ru rv lu lv _ hu hv _ _ _=>by
     left;have af:∀c r,S.H.objs.get c=some r->r.ro=true:=λ c r K=>by have A:=Fv K;have q:=ij.1 J _ A;obtain⟨p,hp⟩:=pI.1 q;obtain⟨rc,l,C,e,fz,h1,h5,h2,h3,h4⟩:=F _ _ hp;grind
     grind
    aC:=λ v r mem hv ag _=>by have A:=Fv hv;have q:=ij.1 J _ A;obtain⟨p,hp⟩:=pI.1 q;obtain⟨rc,l,C,e,fz,h1,h5,h2,h3,h4⟩:=F _ _ hp;grind}
   have wf:WF S.H:=λ c r K=>(Y c r K).2
   have ac:ju (wZ ng ρ m) S.H.next H'.next:=λ c h1 _=>by
    have h1:S.next<=c:=h1;unfold wZ;rw[aj (by omega)];cases hl:qC m c;.rfl
    rename_i p;obtain⟨rc,_,_,_,_,ai,_⟩:=F _ _ hl;grind
   refine(hc _ _ _ _ _ ae _ _ _ _ N wf ac (a1 xs ad)).mono λ e w' ⟨x,ρ',he,hx,y⟩=>?_
   have D:=cp.below N y;refine⟨x,he,adJ M hx,?_⟩
   exact{
    bN:=s.kept y.size D
    ext:=λ _ _=>rfl
    os:=y.os
    tape:=y.tape
    output:=y.output
    size:=y.size
    qj:=λ b hb _=>D b hb
    oO:=λ v r l a b c=>.inr ⟨v,r,l,a,b,c,rfl⟩
    pA:=λ _ _ h _=>h}
  cases ht
 .cases ht
def FZ(P:Program)(ng:Nat)(S:qt):Prop:=S.ok ng=true/\∃Z7 H',jN P ng Z7/\Z7 S.f S.args S.H=some (S.res,H')
theorem Jy{ng:Nat}:∀{tab:List qt},(∀S∈tab,FZ P ng S)->DD P ng (uo tab)
 |[],_=>λ f args H v h=>by cases h
 |S::tab,y=>λ f args H v h B ρ w A s wf q=>by
  have D:=Jy (tab:=tab) λ S J=>y S (cz _ J)
  have h:Bool.rec (motive:=λ _=>Option aa) (uo tab f args H) (Option.rec (motive:=λ _=>Option aa) (uo tab f args H) (λ v=>some v) (Ga S args H)) (Nat.beq S.f f)=some v:=h;cases e:Nat.beq S.f f;.rw[e]at h;exact D f args H v h B ρ w A s wf q
  rw[e]at h;have e:=beq_true e;cases F:Ga S args H;.rw[F]at h;exact D f args H v h B ρ w A s wf q
  rename_i K;rw[F]at h;cases h;obtain⟨N,Z7,H',M,h3⟩:=y S (cS ..);grind[as6]
end
section
variable{a b:Code}{args:List aa}{r:aa×ah}
variable{P:Program}{ng n:Nat}{Z7:aW}
theorem ajE:∀(m:Nat) (c:Code) (T:Tr aa) (H:ah) (r:mI),aZ P ng Z7 n m c T H=some r->aZ P ng Z7 n (m+1) c T H=some r:=by
 intro m;induction m with
 |zero=>intro c T H r h;cases h
 |succ m y=>
  intro c T H r h;cases c with
  |seq a b=>
   have h:iL (aZ P ng Z7 n m b) (aZ P ng Z7 n m a T H)=some r:=h;show iL (aZ P ng Z7 n (m+1) b) (aZ P ng Z7 n (m+1) a T H)=some r;cases q:aZ P ng Z7 n m a T H;.rw[q]at h;cases h
   rename_i s;rw[q]at h;rw[y a T H s q];obtain⟨e,A,D⟩:=s;cases e with
   |normal=>exact y b A D r h
   |exit id=>exact h
   |ret=>exact h
  |cond x a b=>
   have h:mq (aZ P ng Z7 n m a T H) (aZ P ng Z7 n m b T H) (aU ng T x)=some r:=h;show mq (aZ P ng Z7 n (m+1) a T H) (aZ P ng Z7 n (m+1) b T H) (aU ng T x)=some r;generalize aU ng T x=o at h⊢;unfold mq at h⊢;grind
  |block id a=>
   have h:kR id (aZ P ng Z7 n m a T H)=some r:=h;show kR id (aZ P ng Z7 n (m+1) a T H)=some r;cases q:aZ P ng Z7 n m a T H;.rw[q]at h;cases h
   rename_i s;grind
  |loop a=>
   have h:iL (aZ P ng Z7 n m (.loop a)) (aZ P ng Z7 n m a T H)=some r:=h;show iL (aZ P ng Z7 n (m+1) (.loop a)) (aZ P ng Z7 n (m+1) a T H)=some r;cases q:aZ P ng Z7 n m a T H;.rw[q]at h;cases h
   rename_i s;rw[q]at h;rw[y a T H s q];obtain⟨e,A,D⟩:=s;cases e with
   |normal=>exact y (.loop a) A D r h
   |exit id=>exact h
   |ret=>exact h
  |skip=>exact h
  |region id Z8 d=>exact h
  |exit id=>exact h
  |ret=>exact h
  |_=>cases h
theorem xV{k:Nat}(q:m<=k){c:Code}{T:Tr aa}{H:ah}{r:mI}(h:aZ P ng Z7 n m c T H=some r):aZ P ng Z7 n k c T H=some r:=by
 obtain⟨d,rfl⟩:=ait q;clear q;induction d with
 |zero=>exact h
 |succ d y=>exact ajE _ c T H r y
def W(P:Program)(ng:Nat)(Z7:aW)(n:Nat)(c:Code)(T:Tr aa)(H:ah)(Q:eE->Tr aa->ah->Prop):Prop:=∃m e T' H',aZ P ng Z7 n m c T H=some (e,T',H')/\Q e T' H'
def ahD(P:Program)(ng:Nat)(Z7:aW)(n:Nat)(b:Code)(Q:eE->Tr aa->ah->Prop):eE->Tr aa->ah->Prop
 |.normal,T,H=>W P ng Z7 n b T H Q
 |e,T,H=>Q e T H
def aym(id:Nat)(Q:eE->Tr aa->ah->Prop):eE->Tr aa->ah->Prop
 |.exit j,T,H=>if j=id then Q .normal T H else Q (.exit j) T H
 |e,T,H=>Q e T H
variable{T:Tr aa}{H:ah}{Q:eE->Tr aa->ah->Prop}
def W.mono{c:Code}{R:eE->Tr aa->ah->Prop}(h:W P ng Z7 n c T H R)(k:∀e T H,R e T H->Q e T H):W P ng Z7 n c T H Q:=by obtain⟨m,e,T',H',y,q⟩:=h;exact⟨m,e,T',H',y,k _ _ _ q⟩
def kH(h:Q .normal T H):W P ng Z7 n .skip T H Q:=⟨1,_,_,_,rfl,h⟩
def oR(h:Q .ret T H):W P ng Z7 n .ret T H Q:=⟨1,_,_,_,rfl,h⟩
def tX{id:Nat}(h:Q (.exit id) T H):W P ng Z7 n (.exit id) T H Q:=⟨1,_,_,_,rfl,h⟩
theorem jH{id:Nat}{Z8:Array Oper}{d:Bool}{T':Tr aa}(h:jn P ng Z7 n Z8 T H d=some (T',H'))(q:Q .normal T' H'):W P ng Z7 n (.region id Z8 d) T H Q:=⟨1,_,_,_,show px (jn P ng Z7 n Z8 T H d)=_ by rw[h];rfl,q⟩
def aO(h:W P ng Z7 n a T H (ahD P ng Z7 n b Q)):W P ng Z7 n (.seq a b) T H Q:=by
 obtain⟨m,e,T',H',y,q⟩:=h;cases e with
 |normal=>
  obtain⟨k,D,F,J,h3,A⟩:=q;refine⟨max m k+1,D,F,J,?_,A⟩;show iL (aZ P ng Z7 n (max m k) b) (aZ P ng Z7 n (max m k) a T H)=_;rw[xV (BE m k) y];exact xV (xw m k) h3
 |exit id=>
  refine⟨m+1,_,_,_,?_,q⟩;show iL (aZ P ng Z7 n m b) (aZ P ng Z7 n m a T H)=_;rw[y];rfl
 |ret=>
  refine⟨m+1,_,_,_,?_,q⟩;show iL (aZ P ng Z7 n m b) (aZ P ng Z7 n m a T H)=_;rw[y];rfl
def ajZ(h:W P ng Z7 n a T H (ahD P ng Z7 n (.loop a) Q)):W P ng Z7 n (.loop a) T H Q:=by
 obtain⟨m,e,T',H',y,q⟩:=h;cases e with
 |normal=>
  obtain⟨k,D,F,J,h3,A⟩:=q;refine⟨max m k+1,D,F,J,?_,A⟩;show iL (aZ P ng Z7 n (max m k) (.loop a)) (aZ P ng Z7 n (max m k) a T H)=_;rw[xV (BE m k) y];exact xV (xw m k) h3
 |exit id=>
  refine⟨m+1,_,_,_,?_,q⟩;show iL (aZ P ng Z7 n m (.loop a)) (aZ P ng Z7 n m a T H)=_;rw[y];rfl
 |ret=>
  refine⟨m+1,_,_,_,?_,q⟩;show iL (aZ P ng Z7 n m (.loop a)) (aZ P ng Z7 n m a T H)=_;rw[y];rfl
theorem ku{id:Nat}(h:W P ng Z7 n a T H (aym id Q)):W P ng Z7 n (.block id a) T H Q:=by
 obtain⟨m,e,T',H',A,q⟩:=h;cases e with
 |normal=>
  refine⟨m+1,.normal,T',H',?_,q⟩;show kR id (aZ P ng Z7 n m a T H)=_;rw[A];rfl
 |ret=>
  refine⟨m+1,.ret,T',H',?_,q⟩;show kR id (aZ P ng Z7 n m a T H)=_;rw[A];rfl
 |exit j=>
  have q:if j=id then Q .normal T' H' else Q (.exit j) T' H':=q;by_cases y:j=id;.rw[ao y]at q;refine⟨m+1,.normal,T',H',?_,q⟩;show kR id (aZ P ng Z7 n m a T H)=_;grind[kR,Nat.beq_refl]
  rw[aj y]at q;refine⟨m+1,.exit j,T',H',?_,q⟩;show kR id (aZ P ng Z7 n m a T H)=_;grind[kR,beq_true]
def jZ{x:Operand}{v:Bool}(y:aU ng T x=some (.bool v))(A:v=true->W P ng Z7 n a T H Q)(D:v=false->W P ng Z7 n b T H Q):W P ng Z7 n (.cond x a b) T H Q:=by
 cases v;.obtain⟨m,e,T',H',q,h⟩:=D rfl;refine⟨m+1,e,T',H',?_,h⟩;show mq (aZ P ng Z7 n m a T H) (aZ P ng Z7 n m b T H) (aU ng T x)=_;rw[y];exact q
 obtain⟨m,e,T',H',q,h⟩:=A rfl;refine⟨m+1,e,T',H',?_,h⟩;show mq (aZ P ng Z7 n m a T H) (aZ P ng Z7 n m b T H) (aU ng T x)=_;rw[y];exact q
def fI(P:Program)(ng:Nat)(Z7:aW)(f:FuncId)(args:List aa)(H:ah)(r:aa×ah):Prop:=∃fn c m e T l,P.funcs[f]? =some fn/\fn.body=some c/\aZ P ng Z7 (args.length+(fn.ntmps-args.length)) m c (fH args 0 .nil) H=some (e,T,r.2)/\(∀id,e≠.exit id)/\jL P r.2.objs.get T fn.results.toList=some l/\r.1=jJ l
theorem fI.unique{f:FuncId}{H:ah}{s:aa×ah}(h:fI P ng Z7 f args H r)(k:fI P ng Z7 f args H s):r=s:=by obtain⟨fn,c,m,e,T,l,F,D,h3,_,Z,Y⟩:=h;obtain⟨J,c',A,e',T',l',y,q,N,_,M,K⟩:=k;rw[F]at y;cases y;rw[D]at q;cases q;have a:=xV (BE m A) h3;grind[xV,Nat.le_max_right]
open Classical in
noncomputable def r7(P:Program)(ng:Nat)(base Z7:aW):aW:=λ f args H=>
 match base f args H with
 |some r=>some r
 |none=>if h:∃r,fI P ng Z7 f args H r then some (Classical.choose h)else none
def Sd{base:aW}{f:FuncId}{H:ah}(h:base f args H=some r):r7 P ng base Z7 f args H=some r:=by unfold r7;rw[h]
theorem IG{base:aW}{f:FuncId}{H:ah}(h0:base f args H=none)(h:fI P ng Z7 f args H r):r7 P ng base Z7 f args H=some r:=by unfold r7;rw[h0];have q:∃r,fI P ng Z7 f args H r:=⟨r,h⟩;grind[fI.unique]
theorem Oh{base:aW}{f:FuncId}{H:ah}(h:r7 P ng base Z7 f args H=some r):base f args H=some r\/fI P ng Z7 f args H r:=by
 unfold r7 at h;split at h;.grind
 split at h;.grind
 cases h
def agR(q:gS Z7){f:FuncId}{H:ah}(h:fI P ng Z7 f args H r):gG H r.2:=by obtain⟨fn,c,m,e,T,l,F,D,h3,_,A,y⟩:=h;exact vL q _ c _ H e T r.2 h3
def Zi{base:aW}(y:gS base)(q:gS Z7):gS (r7 P ng base Z7):=λ f args H v H' h=>by
 rcases Oh h with h|h
 .exact y f args H v H' h
 exact agR q h
def OX(ae:jN P ng Z7)(hg:gS Z7)(ad:sK P){f:FuncId}{H:ah}{v:aa}(h:fI P ng Z7 f args H (v,H')):∀B ρ w Y,jj B ng ρ H w->WF H->ju ρ H.next H'.next->cJ ρ args Y->
 Calls P f ⟨Y⟩ w (λ e w'=>∃x ρ',e=.returned x/\bj ρ' v x/\cp B ng H.objs.get H.next H'.next ρ w H'.objs.get H'.aG.get ρ' w'):=by
 intro B ρ w Y s wf N D;obtain⟨fn,c,m,e,T,l,hf,hb,ag,af,K,hv⟩:=h;obtain rfl:v=jJ l:=hv;have ab:Y.length=args.length:=lY D;refine calls_of_wp hf hb ?_;have ac:(⟨Y⟩:Array Value).size=args.length:=by simpa using ab
 rw[ac];refine(abI (B:=B) ae hg m).1 c _ H e T H' ag (ad f fn c hf hb) ρ _ w _ s wf N (Of D _) rfl ?_;intro a' w' ρ' hT hd hc;obtain⟨vs,q,J⟩:=Gg (P:=P) hc.bN hT K;have hr:=N3 J
 have Z:bj ρ' (jJ l) (IF vs):=by
  clear hr J K
  match l,q with
  |[],q=>obtain rfl:=nH.1 q;exact⟨[],rfl,rfl⟩
  |[x],q=>
   obtain⟨y,ys,rfl,hy,M⟩:=dg.1 q;obtain rfl:=nH.1 M;exact hy
  |x::y::l,q=>
   obtain⟨x',ys,rfl,hx,M⟩:=dg.1 q;obtain⟨y',zs,rfl,hy,ai⟩:=dg.1 M;exact⟨_,rfl,q⟩
 have A:a'.defers=[]/\∃v,(results fn a'.tmps).run P w'=.ok v w'/\∃x F,Ending.returned v=.returned x/\bj F (jJ l) x/\cp B ng H.objs.get H.next H'.next ρ w H'.objs.get H'.aG.get F w':=⟨hd,_,hr,_,ρ',rfl,Z,hc⟩;cases e with
 |normal=>exact A
 |ret=>exact A
 |exit id=>exact absurd rfl (af id)
def W9{base:aW}(D:jN P ng base)(y:jN P ng Z7)(A:gS Z7)(q:sK P):jN P ng (r7 P ng base Z7):=λ f args H v H' h=>by
 rcases Oh h with h|h
 .exact D f args H v H' h
 exact OX y A q h
def qn{f:FuncId}{c:Code}{H:ah}{R:aa×ah->Prop}(q:P.funcs[f]? =some fn)(y:fn.body=some c)
 (h:W P ng Z7 (args.length+(fn.ntmps-args.length)) c (fH args 0 .nil) H (λ e T H'=>(∀id,e≠.exit id)/\∃l,jL P H'.objs.get T fn.results.toList=some l/\R (jJ l,H'))):
 ∃r,fI P ng Z7 f args H r/\R r:=by
 obtain⟨m,e,T',H',F,D,l,h3,A⟩:=h;exact⟨_,⟨fn,c,m,e,T',l,q,y,F,D,h3,rfl⟩,A⟩
end
section
variable{P:Program}{ng:Nat}
end
section
variable{T:Tr aa}
variable{P:Program}{ng n:Nat}{Z7:aW}
def dO{H:ah}:eQ P ng Z7 n Z8 [] T H=some (T,H):=rfl
theorem dB{H:ah}:eQ P ng Z7 n Z8 (o::l) T H=
 if bJ Z8 T o=true then(match bK P ng Z7 T H o.op with|some r=>eQ P ng Z7 n Z8 l (cG n T o.dst r.1) r.2|none=>none)else eQ P ng Z7 n Z8 l (cG n T o.dst (.tuple [])) H:=by
 show Bool.rec (motive:=λ _=>Option (Tr aa×ah)) (eQ P ng Z7 n Z8 l (cG n T o.dst (.tuple [])) H) (Option.rec (motive:=λ _=>Option (Tr aa×ah)) none (λ r=>eQ P ng Z7 n Z8 l (cG n T o.dst r.1) r.2) (bK P ng Z7 T H o.op)) (bJ Z8 T o)=_;cases bJ Z8 T o;.rfl
 .cases bK P ng Z7 T H o.op<;>rfl
def dT{Z8:Array Oper}{H:ah}:jn P ng Z7 n Z8 T H false=eQ P ng Z7 n Z8.toList Z8.toList T H:=rfl
def br(h:o.guard=none):bJ Z8 T o=true:=by unfold bJ;rw[h]
theorem VU(T:Tr aa)(d:Nat)(v:aa)(i:Nat):aw (cG n T (some d) v) i=if d=i/\d<n then v else aw T i:=by grind[IJ,yV,Tr.fT]
def mc{t:Nat}:aU ng T (.tmp t)=some (aw T t):=rfl
def azo(I:Nat->Tr aa->ah->Prop)(k:Nat)(Q:eE->Tr aa->ah->Prop):eE->Tr aa->ah->Prop
 |.normal,T,H=>∃j,j<k/\I j T H
 |e,T,H=>Q e T H
def tj{a:Code}{Q:eE->Tr aa->ah->Prop}(I:Nat->Tr aa->ah->Prop)(step:∀k T H,I k T H->W P ng Z7 n a T H (azo I k Q)):∀(k:Nat) (T:Tr aa) (H:ah),I k T H->W P ng Z7 n (.loop a) T H Q:=by
 intro k;induction k using Nat.strongRecOn with
 |ind k y=>
  intro T H D;refine ajZ ((step k T H D).mono λ e T' H' h=>?_);cases e with
  |normal=>obtain⟨j,A,q⟩:=h;exact y j A T' H' q
  |exit id=>exact h
  |ret=>exact h
end
section
variable{cs:List aa}{lo:Nat}{r:Row}{s:aa}
variable{P:Program}{ng n:Nat}{Z7:aW}
def iO(a:Int):Prop:= -9223372036854775808<=a/\a<9223372036854775808
theorem Ap(h:iO a):IntKind.wrap .i64 a=a:=by obtain⟨y,q⟩:=h;have e:IntKind.wrap .i64 a=(if(true&&decide (a%18446744073709551616>=9223372036854775808))=true then a%18446744073709551616- 18446744073709551616 else a%18446744073709551616):=rfl;grind
def EW(h:iO (a+b)):cV P .add t (.int .i64 a) (.int .i64 b)=some (.int .i64 (a+b)):=by show some (aa.int .i64 (IntKind.wrap .i64 (a+b)))=_;rw[Ap h]
def ZM:cV P .lss t (.int k a) (.int k b)=some (.bool (decide (a<b))):=by cases k<;>rfl
def aaG:cV P .leq t (.int k a) (.int k b)=some (.bool (decide (a<=b))):=by cases k<;>rfl
def VV:cV P .gtr t (.int k a) (.int k b)=some (.bool (decide (a>b))):=by cases k<;>rfl
def ahA:cV P .geq t (.int k a) (.int k b)=some (.bool (decide (a>=b))):=by cases k<;>rfl
def VX:cV P .eql t (.int k a) (.int k b)=some (.bool (decide (a=b))):=by cases k<;>rfl
def agW:cV P .neq t (.int k a) (.int k b)=some (.bool (!decide (a=b))):=by cases k<;>rfl
structure Good (H:ah):Prop where
 wf:WF H
 aC:∀f mem u r,H.aG.get f=some mem->u∈mem->H.objs.get u=some r->r.aC=f
 mem:∀f mem,H.aG.get f=some mem->f<H.next/\∀u∈mem,u<H.next
structure Fr (fm:Option Nat) (H H':ah):Prop where
 row:∀u r,H.objs.get u=some r->some r.aC≠fm->H'.objs.get u=some r
 aG:∀f mem,H.aG.get f=some mem->some f≠fm->H'.aG.get f=some mem
 next:H.next<=H'.next
theorem Fr.refl(fm:Option Nat)(H:ah):Fr fm H H:=⟨λ _ _ h _=>h,λ _ _ h _=>h,be _⟩
def Fr.trans{A B C:ah}(h:Fr fm A B)(k:Fr fm B C):Fr fm A C:=⟨λ u r e ne=>k.row u r (h.row u r e ne) ne,λ f m e ne=>k.aG f m (h.aG f m e ne) ne,fX h.next k.next⟩
def Fr.any{H:ah}(h:Fr Option.none H H'):Fr fm H H':=⟨λ u r e _=>h.row u r e (by simp),λ f m e _=>h.aG f m e (by simp),h.next⟩
def Fr.fresh{f:Nat}{H:ah}(h:Fr (some f) H H')(g:Good H)(q:H.next<=f):Fr none H H':=⟨λ u r e _=>h.row u r e (by have:=(g.wf u r e).2;simp;omega),λ k m e _=>h.aG k m e (by have:=(g.mem k m e).1;simp;omega),h.next⟩
structure jh (H:ah) (v:Nat) (r:Row):Prop where
 row:H.objs.get v=some r
 ro:r.ro=false
 mem:∃mem,H.aG.get r.aC=some mem
def jh.keep{H:ah}(h:jh H v r)(k:Fr fm H H')(ne:some r.aC≠fm):jh H' v r:=⟨k.row v r h.row ne,h.ro,let⟨m,e⟩:=h.mem;⟨m,k.aG _ _ e ne⟩⟩
theorem gD{H:ah}(g:Good H)(cells:List aa)(exact:Bool)(sz:Nat):Good (alloc H cells exact sz):=by
 refine⟨λ v r h=>?_,λ f mem u r q y h3=>?_,λ f mem h=>?_⟩
 .simp only[alloc]at h⊢;rw[Tr.fT]at h;split at h;.grind
  have:=g.wf v r h;omega
 .simp only[alloc]at q h3;rw[Tr.fT]at q h3;split at q;.grind
  have A:=(g.mem f mem q).2 u y;rw[aj (by omega)]at h3;exact g.aC f mem u r q y h3
 simp only[alloc]at h⊢;rw[Tr.fT]at h;split at h;.grind
 obtain⟨q,y⟩:=g.mem f mem h;grind
theorem gH{H:ah}(g:Good H)(cells:List aa)(exact:Bool)(sz:Nat):Fr none H (alloc H cells exact sz):=by
 refine⟨λ u r h _=>?_,λ f mem h _=>?_,by simp[alloc]⟩;.have:=(g.wf u r h).1;grind[alloc,Tr.tJ]
 have:=(g.mem f mem h).1;grind[alloc,Tr.tJ]
theorem ic(H:ah)(cells:List aa)(exact:Bool)(sz:Nat):jh (alloc H cells exact sz) H.next ⟨cells,H.next,0,exact,false,sz⟩:=⟨by grind[alloc,Tr.sY],rfl,⟨[H.next],by grind[alloc,Tr.sY]⟩⟩
def Hr{hi:Nat}:∀(mem:List Nat) (objs:Tr Row) (u:Nat),u∉mem->(jF objs v lo hi mem).get u=objs.get u
 |[],_,_,_=>rfl
 |a::mem,objs,u,h=>by
  simp only[ck,not_or]at h;simp only[jF];split;.exact Hr mem objs u h.2
  split;.exact Hr mem objs u h.2
  split;.rw[Hr mem _ u h.2,Tr.tJ _ (λ e=>h.1 e.symm)]
  exact Hr mem objs u h.2
def I6:∀(mem:List Nat) (objs:Tr Row) (u:Nat),u∉mem->(mG objs lo mem).get u=objs.get u
 |[],_,_,_=>rfl
 |a::mem,objs,u,h=>by
  simp only[ck,not_or]at h;simp only[mG];split;.exact I6 mem objs u h.2
  split;.exact I6 mem objs u h.2
  rw[I6 mem _ u h.2,Tr.tJ _ (λ e=>h.1 e.symm)]
theorem lO{H:ah}(g:Good H)(o:jh H v r){new:List aa}(J:off+new.length<=r.cells.length)(F:new.all aa.eh=true):
 ∃H',gM H v off new=some H'/\jh H' v {r with cells:=ep r.cells off new}/\Fr (some r.aC) H H'/\H'.next=H.next/\Good H':=by
 obtain⟨q,A,mem,y⟩:=o;refine⟨{H with objs:=(jF H.objs v (r.start+off) (r.start+off+new.length) mem).set v (some {r with cells:=ep r.cells off new})},?_,⟨?_,A,⟨mem,y⟩⟩,⟨λ u ru h ne=>?_,λ f m Y _=>Y,be _⟩,rfl,⟨λ u ru h=>?_,λ f m u ru D K h3=>?_,g.mem⟩⟩;.grind[gM,Nat.ble_eq_true_of_le]
 .exact Tr.sY _ _ _
 .simp only;have M:v≠u:=by grind
  rw[Tr.tJ _ M,Hr mem _ u ?_];.exact h
  intro N;have:=g.aC _ _ _ _ y N h;exact ne (by rw[this])
 .simp only at h⊢;rw[Tr.fT]at h;split at h;.rename_i e;subst e;cases h;exact g.wf v r q
  exact g.wf u ru (uB mem _ u ru h).1
 .simp only at D h3;rw[Tr.fT]at h3;split at h3;.rename_i e;subst e;cases h3;exact g.aC f m v r D K q
  exact g.aC _ _ _ _ D K (uB mem _ u ru h3).1
def cj(H:ah)(sz n:Nat)(s:aa)(cs:List aa)(fm:Option Nat):Prop:=cs.length=n*sz/\((s=.ai/\n=0/\fm=none)\/∃v r,s=.slice v 0 n none/\jh H v r/\r.sz=sz/\n*sz<=r.cells.length/\r.cells.take (n*sz)=cs/\fm=some r.aC)
theorem cj.keep{H:ah}{n:Nat}{A:Option Nat}(h:cj H sz n s cs fm)(k:Fr A H H')(ne:fm=none\/fm≠A):cj H' sz n s cs fm:=by
 obtain⟨y,J|⟨v,r,rfl,o,q,F,D,rfl⟩⟩:=h;.exact⟨y,.inl J⟩
 refine⟨y,.inr ⟨v,r,rfl,o.keep k ?_,q,F,D,rfl⟩⟩;grind
theorem cj.lenOf{H:ah}{n:Nat}(h:cj H sz n s cs fm):lenOf s=some n:=by obtain⟨q,⟨rfl,rfl,_⟩|⟨v,r,rfl,_⟩⟩:=h<;>rfl
theorem cj.cells{H:ah}{n:Nat}(h:cj H sz n s cs fm):eR H.objs.get sz n s=some cs:=by
 obtain⟨y,⟨rfl,rfl,_⟩|⟨v,r,rfl,o,q,D,A,rfl⟩⟩:=h;.obtain rfl:=km (by simpa using y);rfl
 simp only[eR,b9 (be n),bq,o.row];grind[Nat.ble_eq_true_of_le]
theorem OS{a b:Nat}(h:b<a):Nat.ble a b=false:=by
 cases e:Nat.ble a b;.rfl
 have:=gT e;omega
theorem Cs{H:ah}(g:Good H){bytes n k:Nat}{new:List aa}(ak:0<sz)(h:cj H sz n s cs fm)(F:new.length=k*sz)(N:new.all aa.eh=true)
 (hb:(n+k)*bytes<=eJ) (ap:n+k<=eJ):
 ∃s' H' J,gm H sz bytes s k new=some (s',H')/\cj H' sz (n+k) s' (cs++new) J/\Fr fm H H'/\Good H'/\(J=fm\/∃f,H.next<=f/\J=some f):=by
 have ad:=h.cells;have ac:=h.lenOf;obtain⟨h1,⟨rfl,rfl,rfl⟩|⟨v,r,rfl,o,M,hl,ht,rfl⟩⟩:=h
 ·
  obtain rfl:=km (by simpa using h1);cases k;.obtain rfl:=km (by simpa using F);exact⟨.ai,H,none,rfl,⟨by simp,.inl ⟨rfl,rfl,rfl⟩⟩,Fr.refl _ _,g,.inl rfl⟩
  rename_i k;refine⟨.slice H.next 0 (k+1) none,alloc H new false sz,some H.next,?_,⟨by simpa using F,.inr ⟨H.next,_,by simp,ic H new false sz,rfl,by simp[F],by grind,rfl⟩⟩,gH g new false sz,gD g new false sz,.inr ⟨H.next,be _,rfl⟩⟩;grind[gm,hY,OS,Nat.ble_eq_true_of_le]
 .have am:hY H.objs.get sz (.slice v 0 n none)=some (r.exact,r.cells.length/sz):=by simp only[hY,o.row,M,nX];grind[Nat.ble_eq_true_of_le]
  by_cases Z:n+k<=r.cells.length/sz
  ·
   have af:(n+k)*sz<=r.cells.length:=by have:=mQ sz Z;have:=Nat.div_mul_le_self r.cells.length sz;omega
   have Y:(n+k)*sz=n*sz+k*sz:=jR n k sz;obtain⟨H',hw,ae,A,hn,g'⟩:=lO g o (off:=n*sz) (new:=new) (by omega) N;refine⟨.slice v 0 (n+k) none,H',some r.aC,?_,⟨by simp[h1,F,Y],.inr ⟨v,_,rfl,ae,M,?_,?_,rfl⟩⟩,A,g',.inl rfl⟩;.grind[gm,Nat.ble_eq_true_of_le]
   .grind[JG]
   grind[ep]
  by_cases ab:r.exact=true
  ·
   refine⟨.slice H.next 0 (n+k) none,alloc H (cs++new) false sz,some H.next,?_,⟨by simp[h1,F,jR],.inr ⟨H.next,_,rfl,ic H _ false sz,rfl,by simp[h1,F,jR],?_,rfl⟩⟩,(gH g _ false sz).any,gD g _ false sz,.inr ⟨H.next,be _,rfl⟩⟩;.grind[gm,OS,Nat.ble_eq_true_of_le]
   grind[Nat.add_mul]
  have ab:r.exact=false:=by simpa using ab
  obtain⟨al,an,mem,q⟩:=o
  let r':Row:={cells:=cs++new,aC:=r.aC,start:=r.start,exact:=false,ro:=false,sz:=sz}
  let H':ah:={objs:=(mG H.objs (r.start+n*sz) mem).set H.next (some r'),aG:=H.aG.set r.aC (some (H.next::mem)),next:=H.next+1}
  refine⟨.slice H.next 0 (n+k) none,H',some r.aC,?_,⟨by simp[h1,F,jR],.inr ⟨H.next,r',rfl,⟨Tr.sY _ _ _,rfl,⟨H.next::mem,Tr.sY _ _ _⟩⟩,rfl,by grind,?_,rfl⟩⟩,⟨λ u ru y ne=>?_,λ f m A ne=>?_,by simp[H']⟩,⟨λ u ru y=>?_,λ f m u ru D h3 K=>?_,λ f m A=>?_⟩,.inl rfl⟩;.grind[gm,OS,Nat.ble_eq_true_of_le]
  .grind[Nat.add_mul]
  .have ao:=(g.wf u ru y).1;simp only[H'];rw[Tr.tJ _ (by omega),I6 mem _ u ?_];.exact y
   intro hm;have:=g.aC _ _ _ _ q hm y;exact ne (by rw[this])
  .grind[Tr.tJ]
  .simp only[H']at y⊢;rw[Tr.fT]at y;split at y;.rename_i e;cases y;have:=(g.mem _ _ q).1;simp only[r'];omega
   have:=g.wf u ru (tR mem _ u ru y).1;omega
  .simp only[H']at D K;rw[Tr.fT]at D K;split at D
   .rename_i e;cases D;split at K;.grind
    have ag:=(tR mem _ u ru K).1;rcases ck.1 h3 with rfl|h3
    .grind
    rw[<-e];exact g.aC _ _ _ _ q h3 ag
   have hm:=(g.mem f m D).2 u h3;rw[aj (by omega)]at K;exact g.aC _ _ _ _ D h3 (tR mem _ u ru K).1
  simp only[H']at A⊢;rw[Tr.fT]at A;split at A;.rename_i e;cases A;obtain⟨D,h3⟩:=g.mem _ _ q;grind
  obtain⟨D,h3⟩:=g.mem f m A;grind
end
section
variable{cs:List aa}{e:TypeId}{s:aa}
variable{P:Program}{ng n:Nat}{Z7:aW}
def jd(g:Nat->Option Row)(sz n:Nat)(s:aa)(cs:List aa):Prop:=cs.length=n*sz/\((n=0/\(s=.ai\/s=.dq))\/∃v off h r,s=.slice v off n h/\g v=some r/\off+n*sz<=r.cells.length/\(r.cells.drop off).take (n*sz)=cs)
def cj.B7{H:ah}{n:Nat}(h:cj H sz n s cs fm)(k:Fr Option.none H H'):cj H' sz n s cs fm:=h.keep k (by cases fm<;>simp)
def cj.read{H:ah}{n:Nat}(h:cj H sz n s cs fm):jd H.objs.get sz n s cs:=by
 obtain⟨q,⟨rfl,rfl,_⟩|⟨v,r,rfl,o,A,D,y,rfl⟩⟩:=h;.exact⟨q,.inl ⟨rfl,.inl rfl⟩⟩
 exact⟨q,.inr ⟨v,0,none,r,rfl,o.row,by omega,by simpa using y⟩⟩
theorem jd.lenOf{n:Nat}(h:jd g sz n s cs):lenOf s=some n:=by obtain⟨y,⟨rfl,rfl|rfl⟩|⟨v,off,q,r,rfl,_⟩⟩:=h<;>rfl
theorem jd.cells{n:Nat}(h:jd g sz n s cs):eR g sz n s=some cs:=by
 obtain⟨q,⟨rfl,rfl|rfl⟩|⟨v,off,y,r,rfl,D,F,A⟩⟩:=h;.obtain rfl:=km (by simpa using q);rfl
 .obtain rfl:=km (by simpa using q);rfl
 grind[eR,Nat.ble_eq_true_of_le,bq]
def jd.dD{n:Nat}(h:jd g sz n s cs)(y:P.underlying t=some (.slice e)):dD P t s=some (.int .i64 (.ofNat n)):=by obtain⟨A,⟨rfl,rfl|rfl⟩|⟨v,off,q,r,rfl,_⟩⟩:=h<;>simp only[Abs.dD,y]<;>rfl
theorem jd.index{n:Nat}(h:jd g sz n s cs)(hi:i<n){j:TypeInfo}(A:P.underlying t=some (.slice e))(F:P.info? e=some j)(q:j.size=sz):
 ∃v off,(∀k,iM P t s (.int k (.ofNat i))=some (.ptr v off))/\bq g v off sz=some ((cs.drop (i*sz)).take sz)/\∀c x,c<sz->cs[i*sz+c]? =some x->bq g v (off+c) 1=some [x]:=by
 obtain⟨Z,⟨rfl,_⟩|⟨v,off,y,r,rfl,M,N,J⟩⟩:=h;.omega
 .have D:i*sz+sz<=n*sz:=by have:=mQ sz (show i+1<=n by omega);grind
  refine⟨v,off+i*sz,λ k=>?_,?_,λ c x Y K=>?_⟩;.simp only[iM,A,F,b9 hi,q]
  .grind[bq,Nat.ble_eq_true_of_le,List.drop_take,List.drop_drop]
  grind[bq,Nat.ble_eq_true_of_le,List.drop_eq_getElem_cons]
def jd.keep{H:ah}{n:Nat}(h:jd H.objs.get sz n s cs)(k:Fr Option.none H H'):jd H'.objs.get sz n s cs:=by
 obtain⟨A,J|⟨v,off,q,r,rfl,D,F,y⟩⟩:=h;.exact⟨A,.inl J⟩
 exact⟨A,.inr ⟨v,off,q,r,rfl,k.row v r D (by simp),F,y⟩⟩
mutual
theorem ad7:∀(a:aa),dZ a a=true
 |.bool b=>by simp[dZ]
 |.int _ _=>by simp[dZ]
 |.str _=>by simp[dZ]
 |.nilPtr=>by simp[dZ]
 |.ptr _ _=>by simp[dZ]
 |.ai=>by simp[dZ]
 |.slice _ _ _ _=>by simp[dZ]
 |.dq=>by simp[dZ]
 |.nilFunc=>by simp[dZ]
 |.iface=>by simp[dZ]
 |.func _ a b=>by simp[dZ,EH a,EH b]
 |.agg a=>by simp[dZ,EH a]
 |.tuple a=>by simp[dZ,EH a]
theorem EH:∀(Z9:List aa),qG Z9 Z9=true
 |[]=>by simp[qG]
 |a::Z9=>by simp[qG,ad7 a,EH Z9]
end
def RC{T:Tr aa}{H:ah}:gF P ng Z7 n Z8 bef (o::l) i S T H=
 if bJ Z8 T o=true then(match bK P ng Z7 T H o.op with
  |some r=>(match ib (bef i) i T o.op S r with|some S'=>gF P ng Z7 n Z8 bef l (i+1) S' (cG n T o.dst r.1) r.2|none=>none)
  |none=>none)else gF P ng Z7 n Z8 bef l (i+1) S (cG n T o.dst (.tuple [])) H:=by
 show Bool.rec (motive:=λ _=>Option (eX×Tr aa×ah)) (gF P ng Z7 n Z8 bef l (Nat.succ i) S (cG n T o.dst (.tuple [])) H) (Option.rec (motive:=λ _=>Option (eX×Tr aa×ah)) none (λ r=>Option.rec (motive:=λ _=>Option (eX×Tr aa×ah)) none (λ S'=>gF P ng Z7 n Z8 bef l (Nat.succ i) S' (cG n T o.dst r.1) r.2) (ib (bef i) i T o.op S r)) (bK P ng Z7 T H o.op)) (bJ Z8 T o)=_;cases bJ Z8 T o;.rfl
 .cases bK P ng Z7 T H o.op;.rfl
  rename_i r;show Option.rec (motive:=λ _=>Option (eX×Tr aa×ah)) none (λ S'=>gF P ng Z7 n Z8 bef l (Nat.succ i) S' (cG n T o.dst r.1) r.2) (ib (bef i) i T o.op S r)=_;simp only[jz];cases ib (bef i) i T o.op S r<;>rfl
theorem abn{r:Nat×Tr aa×Op×aa}{rs:List (Nat×Tr aa×Op×aa)}:vd P ng bef objs0 es (r::rs)=(qx P ng bef objs0 r.1 r.2.1 r.2.2.1 r.2.2.2 es none&&vd P ng bef objs0 es rs):=rfl
end
section
variable{T:Tr aa}{b:Nat}{o:Op}{r:aa×ah}
variable{P:Program}{ng n:Nat}{Z7:aW}
def A1{bef:Nat}:∀{l:List Nat},qJ bef l=true↔∀a∈l,tb bef a=true
 |[]=>by simp;rfl
 |a::l=>by
  show Bool.rec (motive:=λ _=>Bool) false (qJ bef l) (tb bef a)=true↔_;rw[aD6];cases h:tb bef a;.simp
  simpa using A1
def adD(bef:Nat->Nat)(l:List Oper):Nat->List Nat->Bool:=
 List.rec (motive:=λ _=>Nat->List Nat->Bool) (λ _ _=>true)
  (λ o _ h i cA=>match dj o.op with
   |0=>h (Nat.succ i) cA
   |1=>h (Nat.succ i) cA
   |2=>h (Nat.succ i) (i::cA)
   |_=>qJ (bef i) cA&&h (Nat.succ i) (i::cA)) l
theorem atK{o:Oper}:adD bef (o::l) i cA=(match dj o.op with
 |0=>adD bef l (i+1) cA
 |1=>adD bef l (i+1) cA
 |2=>adD bef l (i+1) (i::cA)
 |_=>qJ (bef i) cA&&adD bef l (i+1) (i::cA)):=rfl
structure afv where
 es:List (Tr Row)
 rs:List (Tr aa×Op×aa)
def aeP(R:afv)(T:Tr aa)(o:Op)(r:aa×ah):afv:=
 match dj o with
 |0=>R
 |1=>{R with rs:=(T,o,r.1)::R.rs}
 |2=>R
 |_=>{R with es:=r.2.objs::R.es}
def aln(P:Program)(ng:Nat)(Z7:aW)(n:Nat)(Z8:List Oper):List Oper->afv->Tr aa->ah->Option (afv×Tr aa×ah)
 |[],R,T,H=>some (R,T,H)
 |o::l,R,T,H=>
  if bJ Z8 T o=true then
   (match bK P ng Z7 T H o.op with
   |some r=>aln P ng Z7 n Z8 l (aeP R T o.op r) (cG n T o.dst r.1) r.2
   |none=>none)
  else aln P ng Z7 n Z8 l R (cG n T o.dst (.tuple [])) H
def DV(o:Op):dj o=0\/dj o=1\/dj o=2\/dj o=3:=by unfold dj;split<;>simp
def aCy{R:afv}(h:dj o=0):aeP R T o r=R:=by unfold aeP;rw[h];rfl
def aCP{R:afv}(h:dj o=1):aeP R T o r={R with rs:=(T,o,r.1)::R.rs}:=by unfold aeP;rw[h];rfl
def aDG{R:afv}(h:dj o=2):aeP R T o r=R:=by unfold aeP;rw[h];rfl
def aCS{R:afv}(h:dj o=3):aeP R T o r={R with es:=r.2.objs::R.es}:=by unfold aeP;rw[h];rfl
def ab6(h:dj o=0):ib b i T o S r=some S:=by unfold ib;rw[h];rfl
def abk(h:dj o=1):ib b i T o S r=some (sW i T o S r.1):=by unfold ib;rw[h];rfl
def aCA(h:dj o=2):ib b i T o S r=some (HM i S):=by unfold ib;rw[h];rfl
theorem ahv(h:dj o=3)(q:qJ b S.cA=true):ib b i T o S r=some (Bc i S r.2):=by grind[ib]
def aBB{o:Oper}(h:dj o.op=3):adD bef (o::l) i cA=(qJ (bef i) cA&&adD bef l (i+1) (i::cA)):=by rw[atK,h];rfl
def aAt{o:Oper}(h:dj o.op=2):adD bef (o::l) i cA=adD bef l (i+1) (i::cA):=by rw[atK,h];rfl
theorem ao3{o:Oper}(h:dj o.op=0\/dj o.op=1):adD bef (o::l) i cA=adD bef l (i+1) cA:=by grind[atK]
theorem ag6:∀{l:List Oper} {i:Nat} {S:eX} {cA:List Nat} {R M:afv} {T T':Tr aa} {H H':ah},adD bef l i cA=true->(∀a∈S.cA,a∈cA)->
 (S.es.map (·.2)=R.es)->(S.rs.map (·.2)=R.rs)->aln P ng Z7 n Z8 l R T H=some (M,T',H')->
 ∃S',gF P ng Z7 n Z8 bef l i S T H=some (S',T',H')/\S'.es.map (·.2)=M.es/\S'.rs.map (·.2)=M.rs
 |[],i,S,cA,R,M,T,T',H,H',_,_,K,J,h=>by cases h;exact⟨S,rfl,K,J⟩
 |o::l,i,S,cA,R,M,T,T',H,H',A,y,K,J,h=>by
  simp only[aln]at h;rw[RC];have F:∀a∈S.cA,a∈i::cA:=λ a N=>cz _ (y a N)
  have D:∀a∈i::S.cA,a∈i::cA:=λ a N=>by grind
  split at h
  .rename_i Y;rw[ao Y];cases Z:bK P ng Z7 T H o.op;.rw[Z]at h;cases h
   rename_i r;rw[Z]at h;simp only at h⊢;rcases DV o.op with q|q|q|q
   .rw[ao3 (.inl q)]at A;rw[aCy q]at h;rw[ab6 q];exact ag6 A y K J h
   .rw[ao3 (.inr q)]at A;rw[aCP q]at h;rw[abk q];exact ag6 (S:=sW i T o.op S r.1) (R:=⟨R.es,(T,o.op,r.1)::R.rs⟩) A y K (by simp[sW,J]) h
   .rw[aAt q]at A;rw[aDG q]at h;rw[aCA q];exact ag6 (S:=HM i S) A D K J h
   rw[aBB q,aR]at A;rw[aCS q]at h;rw[ahv q (A1.2 λ a N=>A1.1 A.1 a (y a N))];exact ag6 (S:=Bc i S r.2) (R:=⟨r.2.objs::R.es,R.rs⟩) A.2 D (by simp[Bc,K]) J h
  rename_i Y;rw[aj Y];rcases DV o.op with q|q|q|q
  .rw[ao3 (.inl q)]at A;exact ag6 A y K J h
  .rw[ao3 (.inr q)]at A;exact ag6 A y K J h
  .rw[aAt q]at A;exact ag6 A F K J h
  rw[aBB q,aR]at A;exact ag6 A.2 F K J h
def aB6{v:aa}:∀{es:List (Nat×Tr Row)} {up:Option Nat},dP P ng T objs0.get o=some v->(∀K∈es.map (·.2),dP P ng T K.get o=some v)->
 qx P ng bef objs0 j T o v es up=true
 |[],up,h0,_=>by show((match up with|some e=>tb (bef j) e|none=>false)||qT P ng T objs0.get o v)=true;simp[qT,h0,ad7]
 |e::es,up,h0,h=>by show(((match up with|some e'=>tb (bef j) e'|none=>false)||tb (bef e.1) j||qT P ng T e.2.get o v)&&qx P ng bef objs0 j T o v es (some e.1))=true;simp only[fL,aD6]at h;rw[aB6 h0 h.2];simp[qT,h.1,ad7]
theorem aBv:∀{rs:List (Nat×Tr aa×Op×aa)},(∀r∈rs.map (·.2),dP P ng r.1 objs0.get r.2.1=some r.2.2/\∀K∈es.map (·.2),dP P ng r.1 K.get r.2.1=some r.2.2)->
 vd P ng bef objs0 es rs=true
 |[],_=>rfl
 |r::rs,h=>by simp only[fL,aD6]at h;rw[abn,aBv h.2,aB6 h.1.1 h.1.2];rfl
theorem aDJ{Z8:Array Oper}{T':Tr aa}{H:ah}{R:afv}(q:adD (cO Z8) Z8.toList 0 []=true)(h:aln P ng Z7 n Z8.toList Z8.toList ⟨[],[]⟩ T H=some (R,T',H'))
 (A:∀r∈R.rs,dP P ng r.1 H.objs.get r.2.1=some r.2.2/\∀K∈R.es,dP P ng r.1 K.get r.2.1=some r.2.2):jn P ng Z7 n Z8 T H true=some (T',H'):=by
 obtain⟨S,F,D,h3⟩:=ag6 (S:=⟨[],[],[]⟩) q (λ a y=>y) rfl rfl h;show nL P ng (cO Z8) H.objs (gF P ng Z7 n Z8.toList (cO Z8) Z8.toList 0 ⟨[],[],[]⟩ T H)=_;grind[nL,aBv]
end
section
variable{R:Tr aa->Prop}{T:Tr aa}
variable{P:Program}{ng n:Nat}{Z7:aW}
theorem bA{H:ah}{r:aa×ah}(q:bJ Z8 T o=true)(y:bK P ng Z7 T H o.op=some r)
 (h:∃T',eQ P ng Z7 n Z8 l (cG n T o.dst r.1) r.2=some (T',H')/\R T'):∃T',eQ P ng Z7 n Z8 (o::l) T H=some (T',H')/\R T':=by
 grind[dB]
theorem aoc{H:ah}(q:bJ Z8 T o=false)
 (h:∃T',eQ P ng Z7 n Z8 l (cG n T o.dst (.tuple [])) H=some (T',H')/\R T'):∃T',eQ P ng Z7 n Z8 (o::l) T H=some (T',H')/\R T':=by
 grind[dB]
def bF{H:ah}(h:R T):∃T',eQ P ng Z7 n Z8 [] T H=some (T',H)/\R T':=⟨T,rfl,h⟩
theorem aDb{H:ah}{Q:eE->Tr aa->ah->Prop}{id:Nat}{Z8:Array Oper}{d:Bool}(R:Tr aa->Prop)(h:∃T',jn P ng Z7 n Z8 T H d=some (T',H')/\R T')(q:∀T',R T'->Q .normal T' H'):W P ng Z7 n (.region id Z8 d) T H Q:=by grind[jH]
def Gj(l:List Oper)(t:Nat):Bool:=List.rec (motive:=λ _=>Bool) true (λ o _ h=>(match o.dst with|some d=> !(Nat.beq d t)|none=>true)&&h) l
theorem aca{d:Option Tmp}{v:aa}{t:Nat}(h:(match d with|some d=> !(Nat.beq d t)|none=>true)=true):aw (cG n T d v) t=aw T t:=by
 cases d;.rfl
 rename_i d;grind[VU,Nat.beq_refl]
theorem Fb:∀{l:List Oper} {T T':Tr aa} {H H':ah},eQ P ng Z7 n Z8 l T H=some (T',H')->∀t,Gj l t=true->aw T' t=aw T t
 |[],T,T',H,H',h,t,_=>by cases h;rfl
 |o::l,T,T',H,H',h,t,q=>by
  have q:((match o.dst with|some d=> !(Nat.beq d t)|none=>true)&&Gj l t)=true:=q;rw[aR]at q;rw[dB]at h;split at h
  .split at h;.rw[Fb h t q.2,aca q.1]
   cases h
  rw[Fb h t q.2,aca q.1]
def bW{H:ah}{Q:eE->Tr aa->ah->Prop}{id:Nat}{Z8:Array Oper}(R:Tr aa->Prop)(h:∃T',eQ P ng Z7 n Z8.toList Z8.toList T H=some (T',H')/\R T')(y:∀T',R T'->(∀t,Gj Z8.toList t=true->aw T' t=aw T t)->Q .normal T' H'):W P ng Z7 n (.region id Z8 false) T H Q:=by obtain⟨T',q,A⟩:=h;exact jH q (y T' A (Fb q))
end
def AA:
 (∀{P:Program} {ng:Nat} {Z7:aW} {T:Tr aa} {H:ah} {x:Operand},bK P ng Z7 T H (.move x)=fZ H (aU ng T x))/\
 (∀{P:Program} {ng:Nat} {Z7:aW} {T:Tr aa} {H:ah} {x:Operand},bK P ng Z7 T H (.assign x)=fZ H (aU ng T x))/\
 (∀{P:Program} {ng:Nat} {Z7:aW} {T:Tr aa} {H:ah} {c a b:Operand},bK P ng Z7 T H (.pick c a b)=fZ H (vJ (aU ng T c) (aU ng T a) (aU ng T b)))/\
 (∀{P:Program} {ng:Nat} {Z7:aW} {T:Tr aa} {H:ah} {t:TypeId} {ps:Array (Nat×Operand)},bK P ng Z7 T H (.build t ps)=fZ H (lP P t (my ng T ps.toList)))/\
 (∀{P:Program} {ng:Nat} {Z7:aW} {T:Tr aa} {H:ah} {x:Operand},bK P ng Z7 T H (.nilCheck x)=fZ H (vM (aU ng T x)))/\
 (∀{P:Program} {ng:Nat} {Z7:aW} {T:Tr aa} {H:ah} {o:BinOp} {t u:TypeId} {x y:Operand},bK P ng Z7 T H (.binOp o t x y u)=fZ H (xX P o t (aU ng T x) (aU ng T y)))/\
 (∀{P:Program} {ng:Nat} {Z7:aW} {T:Tr aa} {H:ah} {o:UnOp} {t:TypeId} {x:Operand},bK P ng Z7 T H (.unOp o t x)=fZ H (yw o (aU ng T x)))/\
 (∀{P:Program} {ng:Nat} {Z7:aW} {T:Tr aa} {H:ah} {s d:TypeId} {x:Operand},bK P ng Z7 T H (.convert s d x)=fZ H (rh P s d (aU ng T x)))/\
 (∀{P:Program} {ng:Nat} {Z7:aW} {T:Tr aa} {H:ah} {f:FuncId} {a b:Array Operand},bK P ng Z7 T H (.makeFunc (.func f) a b)=fZ H (Be f (jo ng T a.toList) (jo ng T b.toList)))/\
 (∀{P:Program} {ng:Nat} {Z7:aW} {T:Tr aa} {H:ah} {s:TypeId} {x:Operand} {f:Nat},bK P ng Z7 T H (.fieldAddr s x f)=fZ H (xQ P s f (aU ng T x)))/\
 (∀{P:Program} {ng:Nat} {Z7:aW} {T:Tr aa} {H:ah} {t:TypeId} {x i:Operand},bK P ng Z7 T H (.indexAddr t x i)=fZ H (zd P t (aU ng T x) (aU ng T i)))/\
 (∀{P:Program} {ng:Nat} {Z7:aW} {T:Tr aa} {H:ah} {t:TypeId} {x i:Operand},bK P ng Z7 T H (.index t x i)=fZ H (yB P t (aU ng T x) (aU ng T i)))/\
 (∀{P:Program} {ng:Nat} {Z7:aW} {T:Tr aa} {H:ah} {x:Operand} {i:Nat},bK P ng Z7 T H (.extract x i)=fZ H (yI i (aU ng T x)))/\
 (∀{P:Program} {ng:Nat} {Z7:aW} {T:Tr aa} {H:ah} {t:TypeId} {x:Operand},bK P ng Z7 T H (.load t x)=fZ H (sj P H.objs.get t (aU ng T x)))/\
 (∀{P:Program} {ng:Nat} {Z7:aW} {T:Tr aa} {H:ah} {t:TypeId} {x:Operand} {lo hi mx:Option Operand},bK P ng Z7 T H (.slice t x lo hi mx)=fZ H (rW P H.objs.get t (aU ng T x) (nK ng T lo) (nK ng T hi) mx))/\
 (∀{P:Program} {ng:Nat} {Z7:aW} {T:Tr aa} {H:ah} {t:TypeId},bK P ng Z7 T H (.alloc t)=mX H (pW (ig P t)))/\
 (∀{P:Program} {ng:Nat} {Z7:aW} {T:Tr aa} {H:ah} {t:TypeId} {x:Operand},bK P ng Z7 T H (.box t x)=mX H (pW (aU ng T x)))/\
 (∀{P:Program} {ng:Nat} {Z7:aW} {T:Tr aa} {H:ah} {t:TypeId} {k:Nat} {ps:Array (Nat×Operand)},bK P ng Z7 T H (.buildSlice t k ps)=mX H (nM P t k (my ng T ps.toList)))/\
 (∀{P:Program} {ng:Nat} {Z7:aW} {T:Tr aa} {H:ah} {t:TypeId} {l c:Operand},bK P ng Z7 T H (.makeSlice t l c)=mX H (wQ P t (aU ng T l) (aU ng T c)))/\
 (∀{P:Program} {ng:Nat} {Z7:aW} {T:Tr aa} {H:ah} {t:TypeId} {a x:Operand},bK P ng Z7 T H (.store t a x)=sF P H t (aU ng T a) (aU ng T x))/\
 (∀{P:Program} {ng:Nat} {Z7:aW} {T:Tr aa} {H:ah} {x:Operand} {t:TypeId},bK P ng Z7 T H (.call {callee:=.builtin .len,args:= #[x],argTypes:= #[t]})=fZ H (match aU ng T x with|some a=>dD P t a|none=>none))/\
 (∀{P:Program} {ng:Nat} {Z7:aW} {T:Tr aa} {H:ah} {x:Operand} {t:TypeId},bK P ng Z7 T H (.call {callee:=.builtin .cap,args:= #[x],argTypes:= #[t]})=fZ H (match aU ng T x with|some a=>zm P H.objs.get t a|none=>none))/\
 (∀{P:Program} {ng:Nat} {Z7:aW} {T:Tr aa} {H:ah} {a:Array Operand} {t:Array TypeId},bK P ng Z7 T H (.call {callee:=.builtin .append,args:=a,argTypes:=t})=yL P H t.toList (jo ng T a.toList))/\
 (∀{P:Program} {ng:Nat} {Z7:aW} {T:Tr aa} {H:ah} {f:Operand} {a:Array Operand} {t:Array TypeId},bK P ng Z7 T H (.call {callee:=.value f,args:=a,argTypes:=t})=tw P Z7 H (aU ng T f) (jo ng T a.toList))/\
 (∀{H:ah} {v:aa},fZ H (some v)=some (v,H))/\
 (∀{ng:Nat} {T:Tr aa} {t:Nat},aU ng T (.tmp t)=some (aw T t))/\
 (∀{ng:Nat} {T:Tr aa} {v:Value},aU ng T (.const v)=ofValue v)/\
 (∀{ng:Nat} {T:Tr aa} {f:FuncId},aU ng T (.func f)=some (.func f [] []))/\
 (∀{k:IntKind} {a:Int},ofValue (.int k a)=some (.int k a))/\
 (∀{b:Bool},ofValue (.bool b)=some (.bool b))/\
 (ofValue (.slice none 0 0)=some .ai)/\
 (∀{s:ByteArray},ofValue (.string s)=some (.str s.data.toList))/\
 (∀{n:Nat} {T:Tr aa} {d:Nat} {v:aa} {i:Nat},aw (cG n T (some d) v) i=if d=i/\d<n then v else aw T i)/\
 (∀{n:Nat} {T:Tr aa} {v:aa},cG n T none v=T)/\
 (∀{ng:Nat} {T:Tr aa},jo ng T []=some [])/\
 (∀{ng:Nat} {T:Tr aa} {x:Operand} {l:List Operand},jo ng T (x::l)=zr (aU ng T x) (jo ng T l))/\
 (∀{a:aa} {l:List aa},zr (some a) (some l)=some (a::l))/\
 (∀{ng:Nat} {T:Tr aa},my ng T []=some [])/\
 (∀{ng:Nat} {T:Tr aa} {i:Nat} {x:Operand} {l:List (Nat×Operand)},my ng T ((i,x)::l)=match aU ng T x,my ng T l with|some a,some l=>some ((i,a)::l)|_,_=>none)/\
 (∀{ng:Nat} {T:Tr aa},nK ng T none=some none)/\
 (∀{ng:Nat} {T:Tr aa} {x:Operand},nK ng T (some x)=match aU ng T x with|some a=>some (some a)|none=>none)/\
 (∀{x y:aa},vJ (some (.bool true)) (some x) (some y)=some x)/\
 (∀{x y:aa},vJ (some (.bool false)) (some x) (some y)=some y)/\
 (∀{P:Program} {o:BinOp} {t:TypeId} {a b:aa},xX P o t (some a) (some b)=cV P o t a b)/\
 (∀{o:UnOp} {a:aa},yw o (some a)=Ee o a)/\
 (∀{P:Program} {s:TypeId} {f:Nat} {a:aa},xQ P s f (some a)=gv P s a f)/\
 (∀{P:Program} {t:TypeId} {a b:aa},zd P t (some a) (some b)=iM P t a b)/\
 (∀{P:Program} {t:TypeId} {a b:aa},yB P t (some a) (some b)=yp P t a b)/\
 (∀{i:Nat} {vs:List aa},yI i (some (.tuple vs))=vs[i]?)/\
 (∀{P:Program} {g:Nat->Option Row} {t:TypeId} {a:aa},sj P g t (some a)=de P g t a)/\
 (∀{P:Program} {g:Nat->Option Row} {t:TypeId} {a:aa} {l h:Option aa},rW P g t (some a) (some l) (some h) none=jY P g t a l h)/\
 (∀{a:aa},pW (some a)=some (a.cells,1,none))/\
 (∀{H:ah} {cs:List aa} {sz:Nat} {k:Option Nat},mX H (some (cs,sz,k))=some (tf H.next k,alloc H cs true sz))/\
 (∀{i:Nat},tf i none=.ptr i 0)/\
 (∀{i k:Nat},tf i (some k)=.slice i 0 k none)/\
 (∀{P:Program} {H:ah} {t:TypeId} {p v:aa},sF P H t (some p) (some v)=match dJ P H t p v with|some H'=>some (.tuple [],H')|none=>none)/\
 (∀{P:Program} {Z7:aW} {H:ah} {g:FuncId} {a b l:List aa},tw P Z7 H (some (.func g a b)) (some l)=ir P Z7 g (a++l++b) H)/\
 (∀{P:Program} {H:ah} {ts:List TypeId} {l:List aa},yL P H ts (some l)=jM P H ts l)/\
 (∀{a b:List aa} {f:FuncId},Be f (some a) (some b)=some (.func f a b))/\
 (∀{v o:Nat},vM (some (.ptr v o))=some (.ptr v o))/\
 (∀{f:FuncId} {a b:List aa},vM (some (.func f a b))=some (.func f a b))/\
 (∀{P:Program} {t:TypeId} {k:IntKind} {a b:Int},cV P .lss t (.int k a) (.int k b)=some (.bool (decide (a<b))))/\
 (∀{P:Program} {t:TypeId} {k:IntKind} {a b:Int},cV P .leq t (.int k a) (.int k b)=some (.bool (decide (a<=b))))/\
 (∀{P:Program} {t:TypeId} {k:IntKind} {a b:Int},cV P .gtr t (.int k a) (.int k b)=some (.bool (decide (a>b))))/\
 (∀{P:Program} {t:TypeId} {k:IntKind} {a b:Int},cV P .geq t (.int k a) (.int k b)=some (.bool (decide (a>=b))))/\
 (∀{P:Program} {t:TypeId} {k:IntKind} {a b:Int},cV P .eql t (.int k a) (.int k b)=some (.bool (decide (a=b))))/\
 (∀{P:Program} {t:TypeId} {k:IntKind} {a b:Int},cV P .neq t (.int k a) (.int k b)=some (.bool (!decide (a=b))))/\
 (∀{b:Bool},Ee .not (.bool b)=some (.bool !b)):=
 ⟨rfl,rfl,rfl,rfl,rfl,rfl,rfl,rfl,rfl,rfl,rfl,rfl,rfl,rfl,rfl,rfl,rfl,rfl,rfl,rfl,rfl,rfl,rfl,rfl,rfl,rfl,rfl,rfl,rfl,rfl,rfl,rfl,λ {_ _ _ _ _}=>VU _ _ _ _,rfl,rfl,rfl,rfl,rfl,rfl,rfl,rfl,rfl,rfl,rfl,rfl,rfl,rfl,rfl,rfl,rfl,rfl,rfl,rfl,rfl,rfl,rfl,rfl,rfl,rfl,rfl,rfl,ZM,aaG,VV,ahA,VX,agW,rfl⟩
def vb:aa->Bool->Bool
 |.bool b,w=>b==w
 |_,_=>false
def N9(w:Bool)(x:Option (aa×ah))(H:ah):Option (aa×ah):=match w with
 |true=>x
 |false=>some (.tuple [],H)
def azw:vb (.bool true) true=true:=rfl
def ajs:vb (.bool true) false=false:=rfl
def avX:vb (.bool false) true=false:=rfl
def ajX:vb (.bool false) false=true:=rfl
def aql{w:Bool}:vb (.tuple []) w=false:=rfl
def anB{x:Option (aa×ah)}{H:ah}:N9 true x H=x:=rfl
def amm{x:Option (aa×ah)}{H:ah}:N9 false x H=some (.tuple [],H):=rfl
def bO{ng n:Nat}{A:Oper}{T:Tr aa}{H:ah}{R:Tr aa->Prop}{r:aa×ah}{d:Nat}{want:Bool}(J:o.guard=some (j,want))(F:Z8[j]? =some A)(K:A.dst=some d)
 (q:N9 (vb (aw T d) want) (bK P ng Z7 T H o.op) H=some r) (h:∃T',eQ P ng Z7 n Z8 l (cG n T o.dst r.1) r.2=some (T',H')/\R T'):∃T',eQ P ng Z7 n Z8 (o::l) T H=some (T',H')/\R T':=by
 have D:bJ Z8 T o=vb (aw T d) want:=by unfold bJ;rw[J];simp only[F,K];cases aw T d<;>rfl
 cases y:vb (aw T d) want;.rw[y]at q;cases q;exact aoc (D.trans y) h
 .rw[y]at q;exact bA (D.trans y) q h
def AB:=au AA (au @jz.{1} (au @qv.{1} (au azw (au ajs (au avX (au ajX (au @aql (au @anB (au @amm (au @Ns @aiu))))))))))
section
variable{T:Tr aa}{o:Op}{v:aa}
variable{P:Program}{ng n:Nat}{Z7:aW}
def iz(H H':ah):Prop:=H.next<=H'.next/\(∀u,u<H.next->H.objs.get u=none->H'.objs.get u=none)/\∀u,u<H.next->H.aG.get u=none->H'.aG.get u=none
theorem iz.refl(H:ah):iz H H:=⟨be _,λ _ _ e=>e,λ _ _ e=>e⟩
def iz.trans{a b c:ah}(h:iz a b)(k:iz b c):iz a c:=⟨fX h.1 k.1,λ u q e=>k.2.1 u (dF q h.1) (h.2.1 u q e),λ u q e=>k.2.2 u (dF q h.1) (h.2.2 u q e)⟩
theorem Gw{α:Type}{t:Tr α}{v u:Nat}{x:Option α}(q:v≠u)(h:t.get u=none):(t.set v x).get u=none:=by rw[Tr.tJ _ q];exact h
def acN{o:Option Row}(h:∀r,o=some r->False):o=none:=by cases o with|none=>rfl|some r=>exact(h r rfl).elim
theorem aby(H:ah)(cs:List aa)(ex:Bool)(sz:Nat):iz H (alloc H cs ex sz):=by exact⟨jl _,λ u h e=>Gw (by omega) e,λ u h e=>Gw (by omega) e⟩
theorem J2{H:ah}{v:Nat}{new:List aa}(h:gM H v off new=some H'):iz H H':=by
 unfold gM at h;split at h;.cases h
 rename_i r A;split at h
 .rename_i mem J F h3 D;cases h;refine⟨be _,λ u q e=>?_,λ u q e=>e⟩;show((jF H.objs v (r.start+off) (r.start+off+new.length) mem).set v _).get u=none;have y:v≠u:=λ K=>by grind
  refine Gw y (acN λ ru q=>?_);rw[(uB mem _ u ru q).1]at e;cases e
 cases h
theorem are{H:ah}{bytes:Nat}{s:aa}{new:List aa}(h:gm H sz bytes s m new=some (v,H')):iz H H':=by
 unfold gm at h;split at h
 .split at h;.grind[iz.refl,J2]
  split at h
  .split at h;.cases h;exact aby _ _ _ _
   split at h
   .split at h
    .rename_i r y;split at h
     .rename_i mem _ _ _;cases h;refine⟨jl _,λ u q e=>?_,λ u q e=>?_⟩
      rotate_left
      .grind[Gw]
      show((mG H.objs _ mem).set H.next _).get u=none;refine Gw (by omega) (acN λ ru q=>?_);rw[(tR mem _ u ru q).1]at e;cases e
     cases h
    cases h
   cases h
  cases h
 cases h
def aqK{H:ah}{ts:List TypeId}{l:List aa}(h:jM P H ts l=some (v,H')):iz H H':=by
 unfold jM at h
 repeat' (split at h)
 all_goals first|(cases h;done)|exact are h
def nr(Z7:aW):Prop:=∀f args H v H',Z7 f args H=some (v,H')->iz H H'
theorem akp{Z7:aW}(A:nr Z7){H:ah}(h:r9 P ng Z7 T H o=some (v,H')):iz H H':=by
 cases o with
 |store t x y=>
  change sF P H t (aU ng T x) (aU ng T y)=_ at h;unfold sF at h;split at h
  .split at h;.rename_i M q;cases h;unfold dJ at q;grind[J2]
   cases h
  cases h
 |call c=>
  change qQ P ng Z7 T H c=_ at h;unfold qQ at h;split at h
  .unfold tw at h;split at h;.obtain⟨fn,K,J,F,h3,D⟩:=R7 h;exact A _ _ _ _ _ D
   cases h
  .unfold yL at h;split at h;.exact aqK h
   cases h
  cases h
 |_=>cases h
theorem asf{Z7:aW}(q:nr Z7){H:ah}(h:bK P ng Z7 T H o=some (v,H')):iz H H':=by
 unfold bK at h;split at h;.unfold fZ at h;grind[iz.refl]
 .unfold fZ at h;grind[iz.refl]
 .unfold mX at h;grind[aby]
 exact akp q h
def JO{Z7:aW}(q:nr Z7):∀{l:List Oper} {T T':Tr aa} {H H':ah},eQ P ng Z7 n Z8 l T H=some (T',H')->iz H H'
 |[],T,T',H,H',h=>by cases h;exact iz.refl _
 |o::l,T,T',H,H',h=>by
  rw[wO]at h;split at h
  .split at h;.rename_i r y;obtain⟨v,A⟩:=r;exact(asf q y).trans (JO q h)
   cases h
  exact JO q h
theorem axp(y:nr Z7){Z8:Array Oper}{T':Tr aa}{H:ah}(h:jn P ng Z7 n Z8 T H draw=some (T',H')):iz H H':=by
 cases draw;.exact JO y (show eQ P ng Z7 n Z8.toList Z8.toList T H=some (T',H')from h)
 have h:nL P ng (cO Z8) H.objs (gF P ng Z7 n Z8.toList (cO Z8) Z8.toList 0 ⟨[],[],[]⟩ T H)=some (T',H'):=h;unfold nL at h;split at h
 .rename_i S A D q;split at h;.cases h;exact JO y (Bh q)
  cases h
 cases h
theorem YZ(J:nr Z7):∀(m:Nat) (c:Code) (T:Tr aa) (H:ah) (e:eE) (T':Tr aa) (H':ah),aZ P ng Z7 n m c T H=some (e,T',H')->iz H H':=by
 intro m;induction m with
 |zero=>intro c T H e T' H' h;cases h
 |succ m y=>
  intro c T H e T' H' h;cases c with
  |skip=>cases h;exact iz.refl _
  |region id Z8 d=>
   change px (jn P ng Z7 n Z8 T H d)=_ at h;unfold px at h;grind[axp]
  |seq a b=>
   change iL (aZ P ng Z7 n m b) (aZ P ng Z7 n m a T H)=_ at h;rcases AU h with⟨A,D,q,F⟩|⟨q,_⟩
   .exact(y a T H _ A D q).trans (y b A D e T' H' F)
   exact y a T H e T' H' q
  |cond x a b=>
   change mq (aZ P ng Z7 n m a T H) (aZ P ng Z7 n m b T H) (aU ng T x)=_ at h;unfold mq at h;grind
  |block id a=>
   change kR id (aZ P ng Z7 n m a T H)=_ at h;unfold kR at h;grind
  |loop a=>
   change iL (aZ P ng Z7 n m (.loop a)) (aZ P ng Z7 n m a T H)=_ at h;rcases AU h with⟨A,D,q,F⟩|⟨q,_⟩
   .exact(y a T H _ A D q).trans (y (.loop a) A D e T' H' F)
   exact y a T H e T' H' q
  |exit id=>cases h;exact iz.refl _
  |ret=>cases h;exact iz.refl _
  |_=>cases h
theorem DQ(q:nr Z7){f:FuncId}{args:List aa}{H:ah}{r:aa×ah}(h:fI P ng Z7 f args H r):iz H r.2:=by obtain⟨fn,c,m,e,T,l,F,D,h3,_,A,y⟩:=h;exact YZ q _ c _ H e T r.2 h3
def arS{base:aW}(y:nr base)(q:nr Z7):nr (r7 P ng base Z7):=λ f args H v H' h=>by
 rcases Oh h with h|h
 .exact y f args H v H' h
 exact DQ q h
end
end
end Go.Abs
