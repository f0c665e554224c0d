/- Library functions in place. -/
import Derived.Test.YtkencjbbibdamaaGreatDoorH
import Derived.Lib.SlicesCompact
set_option linter.all false
set_option maxRecDepth 100000
namespace Go.Abs
noncomputable section
open Go
variable{H':ah}{P:Program}{U:VT}{args l:List aa}{Z7:aW}{d:Option Tmp}{gl:aM}{i id0 k kk sz:Nat}{r:aa×ah}
section
open Go.Proofs
variable{ng:Nat}{Z7:aW}
def mH(l:List Int):List Int:=l.mergeSort λ x y=>decide (x<=y)
theorem EV(l:List Int):(mH l).length=l.length:=by simp[mH]
def aff(Z7:aW):Prop:=∀(I:Im) (H:ah) (l:List Int) (a:aa),Good H->cu I H.objs.get->RP I (aD l) a->l.length<=1000->∃r,Z7 82 [a] H=some r/\∃fm,cj r.2 1 l.length r.1 (cT l) fm/\kM H fm/\Fr none H r.2/\Good r.2
def YB(Z7:aW):Prop:=∀(H:ah) (s:aa) (a:List Int) (fm:Option Nat),Good H->cj H 1 a.length s (cT a) fm->a.length<=1000->∃H',Z7 28 [s] H=some (.tuple [],H')/\cj H' 1 a.length s (cT (mH a)) fm/\Fr fm H H'/\Good H'
def adZ(Z7:aW):Prop:=∀(H:ah) (s:aa) (a:List Int) (fm:Option Nat),Good H->cj H 1 a.length s (cT a) fm->a.length<=1000->∃s' H',Z7 29 [s] H=some (s',H')/\cj H' 1 (Lib.compact a).length s' (cT (Lib.compact a)) fm/\Fr fm H H'/\Good H'
def akK{H:ah}:ir af Z7 82 l H=Z7 82 l H:=by simp only[ir,Tryz.func82];rfl
def atj{H:ah}:ir af Z7 28 l H=Z7 28 l H:=by simp only[ir,Tryz.func28];rfl
def awM{H:ah}:ir af Z7 29 l H=Z7 29 l H:=by simp only[ir,Tryz.func29];rfl
def avL{I:Im}{H:ah}(g:Good H)(hI:cu I H.objs.get){l:List Int}{a:aa}(hr:RP I (aD l) a)(F:l.length<=1000)(c1:aff Z7)(c2:YB Z7)(c3:adZ Z7):
 ∃r,fI af ng Z7 263 [a] H r/\r.1=.int .i64 ((Lib.compact (mH l)).length:Int)/\Fr none H r.2/\Good r.2:=by
 refine qn Tryz.func263 rfl ?_;show W af ng Z7 11 _ _ _ _;have G:aw (fH [a] 0 .nil) 0=a:=rfl;obtain⟨⟨s,K⟩,Z,fm,Y,A,S,N⟩:=c1 I H l a g hI hr F;obtain⟨J,p1,D,p3,p4⟩:=c2 K s l fm N Y F;have q:=EV l;rw[<-q]at D;obtain⟨s3,H3,r1,r2,r3,r4⟩:=c3 J s (mH l) fm p4 D (by omega);refine aO (bW (H':=H) (λ T=>True) ?_ ?_)
 ·(repeat ((first|apply bA (br rfl)|apply bO rfl rfl rfl);simp+decide only[AB,G];rfl))
  exact bF trivial
 intro T1 _ k1;have b0:=(k1 0 rfl).trans G;refine aO (bW (H':=K) (λ T=>aw T 3=s) ?_ ?_)
 ·(repeat ((first|apply bA (br rfl)|apply bO rfl rfl rfl);simp+decide only[AB,b0,jS,oq,akK,Z];rfl))
  exact bF (by simp+decide only[AB])
 intro T2 y k2;refine aO (bW (H':=J) (λ T=>True) ?_ ?_)
 ·(repeat ((first|apply bA (br rfl)|apply bO rfl rfl rfl);simp+decide only[AB,y,jS,oq,atj,p1];rfl))
  exact bF trivial
 intro T3 _ k3;have L:=(k3 3 rfl).trans y;have h:=r2.read.dD Tryz.underlying45;refine aO (bW (H':=H3) (λ T=>aw T 2=.int .i64 (Int.ofNat (Lib.compact (mH l)).length)) ?_ ?_)
 ·(repeat ((first|apply bA (br rfl)|apply bO rfl rfl rfl);simp+decide only[AB,L,jS,oq,awM,r1,h];rfl))
  exact bF (by simp+decide only[AB])
 intro T4 M _;exact oR ⟨by simp,[_],rfl,by simp only[jJ,M];rfl,(S.jE g p3 A).jE g r3 A,r4⟩
end
section
variable{P:Program}{ng n B:Nat}{Z7:aW}{Z8:Array Oper}{Q:Exit->Act->World->Prop}{md:Region.Mode}
def sg(k i:Nat):Nat:=if i=0 then k else if i<=k then i- 1 else i
def tW(k j:Nat):Nat:=if j<k then j+1 else if j=k then 0 else j
theorem O9(k i:Nat):tW k (sg k i)=i:=by grind[sg,tW]
theorem agp(k j:Nat):sg k (tW k j)=j:=by grind[sg,tW]
def BO(k:Nat)(o:Oper):Oper:={o with after:=(o.after.toList.map λ e=>{e with on:=sg k e.on}).toArray}
def pb(k:Nat)(Z8:Array Oper):Array Oper:=((List.range Z8.size).map λ j=>BO k (Z8.getD (tW k j) default)).toArray
theorem Xl(k:Nat):(pb k Z8).size=Z8.size:=by simp[pb]
theorem TB(a:k<Z8.size)(hi:i<Z8.size):sg k i<Z8.size:=by grind[sg]
theorem apk(a:k<Z8.size)(hi:i<Z8.size):tW k i<Z8.size:=by grind[tW]
def QG(q:k<Z8.size){o:Oper}(h:Z8[i]? =some o):(pb k Z8)[sg k i]? =some (BO k o):=by have hi:i<Z8.size:=(BI.1 h).1;have a:=TB q hi;simp only[pb,List.getElem?_toArray,bM,Et a,lA,O9];rw[kW,h];rfl
def SD(Z8:Array Oper):Bool:=Z8.toList.all λ o=>o.guard.isNone
theorem GS{a:Array Bool}:i∈Region.ready md Z8 a↔∃o,Z8[i]? =some o/\a.getD i true=false/\∀e∈o.after.toList,Region.binds md e=true->a.getD e.on false=true:=by unfold Region.ready;grind[Array.getElem?_eq_getElem,Bool.not_eq_true',Array.all_eq_true_iff_forall_mem]
theorem M9{l:Array Bool}(h:i<l.size):l.getD i true=l.getD i false:=by grind[Array.getD_eq_getD_getElem?,Array.getElem?_eq_getElem]
theorem akX(N:k<Z8.size)(hg:SD Z8=true):∀{q:Nat} {listed listed':Array Bool} {a:Act} {w:World},listed.size=Z8.size->listed'.size=Z8.size->(∀i,listed'.getD (sg k i) false=listed.getD i false)->
 wpAny P md (pb k Z8) Q q listed' a w->wpAny P md Z8 Q q listed a w:=by
 have rd:∀{listed listed':Array Bool},listed.size=Z8.size->listed'.size=Z8.size->(∀i,listed'.getD (sg k i) false=listed.getD i false)->∀i,i∈Region.ready md Z8 listed->sg k i∈Region.ready md (pb k Z8) listed':=by
  intro listed listed' J G h i hi;obtain⟨o,F,h3,h4⟩:=GS.1 hi;have D:i<Z8.size:=(BI.1 F).1;refine GS.2 ⟨_,QG N F,?_,λ e K hb=>?_⟩;.grind[M9,TB]
  simp only[BO,eK]at K;obtain⟨e',Y,rfl⟩:=K;show listed'.getD (sg k e'.on) false=true;rw[h];exact h4 e' Y hb
 have Z:∀{listed listed':Array Bool},listed.size=Z8.size->listed'.size=Z8.size->(∀i,listed'.getD (sg k i) false=listed.getD i false)->Region.ready md Z8 listed=[]->Region.ready md (pb k Z8) listed'=[]:=by
  intro listed listed' J G h K;rw[aBg];intro j hj;obtain⟨o,F,h3,h4⟩:=GS.1 hj;have D:j<Z8.size:=by grind[Array.getElem?_eq_some_iff,Xl]
  have ac:=apk N D;have M:Z8[tW k j]? =some Z8[tW k j]:=uj ac;have S:=QG N M;rw[agp,F]at S;cases S
  have:tW k j∈Region.ready md Z8 listed:=by
   refine GS.2 ⟨_,M,?_,λ e Y hb=>?_⟩;.grind[M9,agp]
   rw[<-h];exact h4 {e with on:=sg k e.on} (by grind[BO]) hb
  rw[K]at this;cases this
 intro q;induction q with
 |zero=>
  intro listed listed' a w J G h L;refine⟨?_,L.2⟩;rw[aBg];intro i hi;have:=rd J G h i hi;rw[L.1]at this;cases this
 |succ q ih=>
  intro listed listed' a w J G h L;refine⟨λ K=>L.1 (Z J G h K),λ i hi=>?_⟩;have A:=L.2 _ (rd J G h i hi);obtain⟨o,F,_,_⟩:=GS.1 hi;have D:i<Z8.size:=(BI.1 F).1
  have ad:o.guard=none:=by
   have:=ij.1 hg o (by grind[Array.mem_of_getElem?])
   simpa using this
  have ab:∀a w,wpAny P md (pb k Z8) Q q (listed'.setIfInBounds (sg k i) true) a w->wpAny P md Z8 Q q (listed.setIfInBounds i true) a w:=by
   intro a w hx;refine ih (by simpa using J) (by simpa using G) (λ j=>?_) hx;by_cases e:j=i;.subst e;rw[kW,ais (by rw[G];exact TB N D),kW,ais (by omega)]
   have e2:sg k i≠sg k j:=λ S=>e (by grind[tW,O9])
   have:=h j;rw[kW,kW]at this;rw[kW,Vg e2,kW,Vg (λ S=>e S.symm)];exact this
  unfold wpOp at A⊢;rw[QG N F]at A;rw[F];simp only at A⊢;have w1:∀y,Region.wanted o y=true:=λ y=>by unfold Region.wanted;rw[ad]
  have w2:∀y,Region.wanted (BO k o) y=true:=λ y=>by grind[Region.wanted,BO,guard]
  rw[ao (w1 _)];rw[ao (w2 _)]at A;rcases A with A|A
  .exact .inl (Oper.wp_mono ab (show o.wp P a w _ Q from A))
  exact .inr A
end
section
variable{T T':Tr aa}{a:Act}{Z8:Array Oper}{ρ:cr}
variable{P:Program}{ng n B:Nat}{Z7:aW}
theorem ak1{Z8:Array Oper}(ae:jN P ng Z7)(Z:gS Z7)(ab:wj Z8=true){H:ah}{w:World}{Q:Exit->Act->World->Prop}
 (h:jn P ng Z7 n Z8 T H true=some (T',H')) (s:jj B ng ρ H w) (wf:WF H) (Y:ju ρ H.next H'.next) (hT:fi ρ n T a.tmps) (hd:a.defers=[])
 (hQ:∀a' w' ρ',fi ρ' n T' a'.tmps->a'.defers=[]->cp B ng H.objs.get H.next H'.next ρ w H'.objs.get H'.aG.get ρ' w'->Q .normal a' w'):
 ∀md,uK md Z8 (Region.linearise md Z8 0) []=true->wpAny P md Z8 Q Z8.size (Array.replicate Z8.size false) a {w with drawn:=w.drawn+1}:=by
 have h:nL P ng (cO Z8) H.objs (gF P ng Z7 n Z8.toList (cO Z8) Z8.toList 0 ⟨[],[],[]⟩ T H)=some (T',H'):=h;unfold nL at h;split at h
 .rename_i S T1 H1 J;split at h
  .rename_i D;cases h;simp only[wj,aR]at ab;obtain⟨G,Ht,vt,wt,tx,ac,F,av,am⟩:=adN (Bh J);have M:gF P ng Z7 n Z8.toList (cO Z8) Z8.toList 0 ⟨kL Z8 wt 0,jX Z8 Ht wt 0,lS Z8 G vt wt 0⟩ (G 0) (Ht 0)=some (S,T',H'):=by rw[ac,F];exact J
   obtain⟨hS,aj⟩:=Nk tx (cM) (iB _) M;subst hS
   have y:∀k i,i<k->(kind Z8 wt i=2\/kind Z8 wt i=3)->i∈kL Z8 wt k:=by
    intro k;induction k with
    |zero=>intro i hi;omega
    |succ k A=>grind[kL,Nat.eq_or_lt_of_le,Nat.le_of_lt_succ,List.mem_cons_of_mem]
   have K:∀k j o,j<k->Z8[j]? =some o->kind Z8 wt j=1->(j,G j,o.op,vt j)∈lS Z8 G vt wt k:=by
    intro k;induction k with
    |zero=>intro j o hj;omega
    |succ k A=>
     intro j o hj ho N;simp only[lS];rcases rJ (BD hj)with rfl|au
     .rw[ao N];simp[ho]
     grind[List.mem_cons_of_mem]
   have d:AW P ng Z7 n Z8 G Ht vt wt:={
    tx:=tx,ok:=ae,grow:=Z,wf:=by rw[F];exact wf,apart:=ab.2,
    chain:=λ k N i ai af=>aj k (iB _) (Hx (by rw[N];decide)) N i (y k i ai af),
    reads:=λ j o ho N p hp ar up aq=>by have ag:=Hx (i:=j) (Z8:=Z8) (wt:=wt) (by rw[N];decide);have:=Pu D _ (K Z8.size j o ag ho N);grind[IM]}
   have an:A7 ng n B Z8 G Ht vt wt ρ w (λ i=>(Array.replicate Z8.size false).getD i false) a {w with drawn:=w.drawn+1}:=by
    have al:∀i,(Array.replicate Z8.size false).getD i false=false:=by intro i;simp only[kW,Nr];split<;>rfl
    have hg:∀k,fE Z8 Ht wt 0 (λ i=>(Array.replicate Z8.size false).getD i false) k=(λ _=>none)/\jq Z8 Ht wt 0 (λ i=>(Array.replicate Z8.size false).getD i false) k=(λ _=>none):=by
     intro k;induction k with
     |zero=>exact⟨rfl,rfl⟩
     |succ k A=>grind[fE,jq]
    have ak:∀k,TL n Z8 G vt (λ i=>(Array.replicate Z8.size false).getD i false) k=G 0:=by
     intro k;induction k with
     |zero=>rfl
     |succ k A=>grind[TL]
    refine⟨ρ,0,hd,by rw[ak,ac];exact hT,iB _,.inl rfl,λ q _=>by simp[al],λ i hi _=>?_,?_⟩;.have h1:=(nU Z tx i 0 (iB _) (by omega)).1;have h2:=(nU Z tx Z8.size (i+1) hi (be _)).1;rw[F]at h1;rw[am]at h2;exact Y.sub h1 h2
    rw[(hg Z8.size).1,(hg Z8.size).2,F];exact{cp.refl s _ _ with bN:=s}
   have aw:∀a w' ρ',a.defers=[]->fi ρ' n (G Z8.size) a.tmps->cp B ng (Ht 0).objs.get (Ht 0).next (Ht Z8.size).next ρ w (Ht Z8.size).objs.get (Ht Z8.size).aG.get ρ' w'->Q .normal a w':=by grind
   have ad:qi (λ i=>(Array.replicate Z8.size false).getD i false) Z8.size<=Z8.size:=by
    have:∀(L:Nat->Bool) k,qi L k<=k:=by
     intro L k;induction k with
     |zero=>exact be _
     |succ k A=>grind[qi]
    exact this _ _
   have ap:∀i o e,(Array.replicate Z8.size false).getD i false=true->Z8[i]? =some o->e∈o.after.toList->Region.binds .any e=true->(Array.replicate Z8.size false).getD e.on false=true:=by intro i o e h1;simp only[kW,Nr]at h1;split at h1<;>cases h1
   grind[agP]
  cases h
 .cases h
theorem aj9(L:k<Z8.size)(M:SD Z8=true)(D:jN P ng Z7)(J:gS Z7)(A:wj (pb k Z8)=true){id:Nat}{H:ah}{w:World}{Q:Exit->Act->World->Prop}
 (h:jn P ng Z7 n (pb k Z8) T H true=some (T',H')) (s:jj B ng ρ H w) (wf:WF H) (q:ju ρ H.next H'.next) (S:fi ρ n T a.tmps) (N:a.defers=[])
 (Y:∀K w' ρ',fi ρ' n T' K.tmps->K.defers=[]->cp B ng H.objs.get H.next H'.next ρ w H'.objs.get H'.aG.get ρ' w'->Q .normal K w'):(Code.region id Z8 true).wp P Q a w:=by
 have y:=A;simp only[wj,aR]at y;have all:=ak1 (B:=B) (Q:=Q) D J A h s wf q S N Y
 have G:∀i,(Array.replicate Z8.size false).getD (sg k i) false=(Array.replicate Z8.size false).getD i false:=by
  have:∀i,(Array.replicate Z8.size false).getD i false=false:=by intro i;simp only[kW,Nr];split<;>rfl
  intro i;rw[this,this]
 have any:∀md,uK md (pb k Z8) (Region.linearise md (pb k Z8) 0) []=true->∀t,wpOps P Z8 Q (Region.linearise md Z8 t) a {w with drawn:=w.drawn+1}:=λ md F t=>by have:=all md F;rw[Xl]at this;exact wpAny_sound Z8.size t _ a _ (akX L M (by simp) (by simp) G this)
 grind[wp_region_draw,Region.schedule]
def lQ(id0 k:Nat):Code->Code
 |.region id Z8 d=>if id=id0 then .region id (pb k Z8) d else .region id Z8 d
 |.seq a b=>.seq (lQ id0 k a) (lQ id0 k b)
 |.cond x a b=>.cond x (lQ id0 k a) (lQ id0 k b)
 |.skip=>.skip
 |.ret=>.ret
 |_=>.exit 0
def rA(id0 k:Nat):Code->Bool
 |.region id Z8 d=>if id=id0 then d&&(decide (k<Z8.size)&&(SD Z8&&wj (pb k Z8)))else(!d||wj Z8)
 |.seq a b=>rA id0 k a&&rA id0 k b
 |.cond _ a b=>rA id0 k a&&rA id0 k b
 |.skip=>true
 |.ret=>true
 |_=>false
def ayM(ab:jN P ng Z7)(F:gS Z7):∀(m:Nat) (c:Code) (T:Tr aa) (H:ah) (e:eE) (T':Tr aa) (H':ah),aZ P ng Z7 n m (lQ id0 k c) T H=some (e,T',H')->rA id0 k c=true->
 ∀(ρ:cr) (a:Act) (w:World) (Q:Exit->Act->World->Prop),jj B ng ρ H w->WF H->ju ρ H.next H'.next->fi ρ n T a.tmps->a.defers=[]->
 (∀N w' ρ',fi ρ' n T' N.tmps->N.defers=[]->cp B ng H.objs.get H.next H'.next ρ w H'.objs.get H'.aG.get ρ' w'->Q e.up N w')->c.wp P Q a w:=by
 intro m;induction m with
 |zero=>intro c T H e T' H' h;cases h
 |succ m A=>
  intro c T H e T' H' h q ρ a w Q s wf K D G J;cases c with
  |skip=>cases h;exact wp_skip (J a w ρ D G (cp.refl s _ _))
  |region id Z8 d=>
   simp only[lQ]at h;simp only[rA]at q;by_cases ac:id=id0
   .rw[ao ac]at h q;simp only[aR,Ek]at q;obtain⟨rfl,h2,h3,h4⟩:=q;change px (jn P ng Z7 n (pb k Z8) T H true)=_ at h;unfold px at h;split at h;.rename_i S Y hr;cases h;exact aj9 h2 h3 ab F h4 hr s wf K D G J
    cases h
   rw[aj ac]at h q;change px (jn P ng Z7 n Z8 T H d)=_ at h;unfold px at h;split at h;.rename_i S Y hr;cases h;refine ace ab F (λ ag=>?_) hr s wf K D G J;simpa[ag]using q
   cases h
  |seq x y=>
   change iL (aZ P ng Z7 n m (lQ id0 k y)) (aZ P ng Z7 n m (lQ id0 k x) T H)=_ at h;simp only[rA,aR]at q;refine wp_seq ?_;rcases AU h with⟨S,Y,h1,h2⟩|⟨h1,hn⟩
   .have g1:=vL F m (lQ id0 k x) T H _ S Y h1;have g2:=vL F m (lQ id0 k y) S Y e T' H' h2;refine A x T H _ S Y h1 q.1 ρ a w _ s wf (K.sub (be _) g2.1) D G (λ N w' ρ' M L hc=>?_);exact A y S Y e T' H' h2 q.2 ρ' N w' Q hc.bN (g1.2 wf) (K.CN hc g1.1) M L (λ ak af Z ae ad ai=>J ak af Z ae ad (hc.trans ai g1.1 g2.1))
   refine A x T H e T' H' h1 q.1 ρ a w _ s wf K D G (λ N w' ρ' M L hc=>?_);have:=J N w' ρ' M L hc;cases e with
   |normal=>exact absurd rfl hn
   |exit id=>exact this
   |ret=>exact this
  |cond x y z=>
   change mq (aZ P ng Z7 n m (lQ id0 k y) T H) (aZ P ng Z7 n m (lQ id0 k z) T H) (aU ng T x)=_ at h;simp only[rA,aR]at q;unfold mq at h;split at h;.rename_i hx;exact wp_cond_true (fP D s.iT hx) (A y T H e T' H' h q.1 ρ a w Q s wf K D G J)
   .rename_i hx;exact wp_cond_false (fP D s.iT hx) (A z T H e T' H' h q.2 ρ a w Q s wf K D G J)
   cases h
  |ret=>cases h;exact wp_ret (J a w ρ D G (cp.refl s _ _))
  |_=>cases q
end
section
variable{P:Program}{ng n B:Nat}{gl:aM}{G:Gh}{H:ah}
def rS(P:Program)(ng id0 kk:Nat)(Z7:aW)(f:FuncId)(args:List aa)(H:ah)(r:aa×ah):Prop:=∃fn c m e T l,P.funcs[f]? =some fn/\fn.body=some c/\rA id0 kk c=true/\aZ P ng Z7 (args.length+(fn.ntmps-args.length)) m (lQ id0 kk c) (fH args 0 .nil) H=some (e,T,r.2)/\(∀id,e≠.exit id)/\jL P r.2.objs.get T fn.results.toList=some l/\r.1=jJ l
def Jz(P:Program)(id0 kk:Nat)(pol:FuncId->eV)(gl:aM)(Z7:cI)(m:Nat)(f:FuncId)(args:List ae)(S:List bI):Option (ae×List bI×Bool):=
 match P.funcs[f]?with
 |none=>none
 |some fn=>
  match fn.body with
  |none=>none
  |some c=>
   match eN P (pol f) gl Z7 (args.length+(fn.ntmps-args.length)) m (lQ id0 kk c) (lM 0 args) (aH [] S)with
   |some (.exit _,_,_)=>none
   |some (_,T,st)=>match tV P st T fn.results.toList with
    |some l=>some (lD l,st.up,st.w)
    |none=>none
   |none=>none
theorem auV{Z7:cI}{acall:aW}(L:mz ng gl Z7 acall){pol:FuncId->eV}{m:Nat}{f:FuncId}{args:List ae}{S S1:List bI}{v:ae}{w dt:Bool}(A:Jz P id0 kk pol gl Z7 m f args S=some (v,S1,w))(ac:∀fn c,P.funcs[f]? =some fn->fn.body=some c->rA id0 kk c=true)(hs:args.map bD=args)
 (hv:cn G (dA S) H) (hg:kJ ng gl G) {xs0:List aa} (hr:bB (cut S.length G.ρ) G.I args xs0) (al:∀d k,(bE (dA S) d k).isSome=true->w=true->ja (mZ dt) d k):
 ∃a H' G',rS P ng id0 kk acall f xs0 H (a,H')/\cn G' (dA S1) H'/\cw S.length G (dA S) H G' (dA S1) H' (ja (mZ dt)) (λ _=>True)/\aA ρ0 G'.I v a/\mw G' (.tmp S.length 0) v.cells a.cells:=by
 unfold Jz at A;split at A;.cases A
 .rename_i fn hf;split at A;.cases A
  rename_i c hc;split at A;.cases A
  .rename_i e T2 bU af ag;split at A
   .rename_i l hl;cases A;have ad:Ok ng gl S.length G (lM 0 args) (fH xs0 0 .nil) (dA S) H:=⟨hv,Xd hr hs,rfl,hg⟩;obtain⟨hw,ai,H2,G2,e1,Z,J⟩:=OH L m (lQ id0 kk c) ad ag;obtain⟨rs,r1,r2,r3⟩:=GZ (P:=P) Z.bN Z.tmp hl;have N:xs0.length=args.length:=pz hr;have ab:=Z.gC;have K:∀d k cs,bE (dA bU.up) d k=some cs->bE bU d k=some cs:=by intro d k cs e;rw[yo]at e;unfold bE;rw[aj (by have:=cY e;omega)];exact e
    have ak:∀k,bE (dA S) S.length k=none:=by
     intro k;rw[yo];cases e:b7 S S.length k;.rfl
     rename_i cs;have:=cY e;omega
    have iR:∀t,cw S.length G (dA S) H (eG G2 (zb S.length t)) (dA bU.up) H2 (ja (mZ dt)) (λ _=>True):=by
     intro t;refine⟨J.im,J.mh,λ k hk=>(hk trivial).elim,λ d k u a b c=>?_,J.next,λ u hu=>?_,λ f s a b=>?_,ab,J.nJ,λ f s a b=>?_,J.aG⟩;.refine J.live d k u ?_ b c;obtain⟨cs,L⟩:=pI.1 a;rw[K d k cs L];rfl
     .rcases J.rows u hu with q|⟨d,k,D,M,q3⟩
      .exact .inl q
      rcases D with D|D
      .grind
      grind
     .obtain⟨D,M⟩:=J.sD f s a b;refine⟨?_,M⟩;show(G2.own f).bind _=some s;rw[D];cases s with
      |tmp d i j=>
       have:d<S.length:=a;grind[zb]
      |box _ _ _=>exact a.elim
      |up s=>rfl
     obtain⟨s',q⟩:=xK a;exact J.qM f s' q b
    have F:rS P ng id0 kk acall f xs0 H (jJ rs,H2):=by
     refine⟨fn,c,m,e,ai,rs,hf,hc,ac fn c hf hc,?_,λ id he=>?_,r1,rfl⟩;.rw[N];exact e1
     subst he;exact af id rfl
    have h:∀t,cn (eG G2 (zb S.length t)) (dA bU.up) H2:=λ t=>(Z.bN.sub K).eG λ _ _ _=>rfl
    match l,rs,r2,r3 with
    |[],rs,r2,r3=>
     obtain rfl:=jI.1 r2;exact⟨_,_,_,F,h 0,iR 0,by simp[lD,aA],(iF (by simp[lD]) rfl).own _ _⟩
    |[v],rs,r2,r3=>
     obtain⟨a,Y,rfl,D,M⟩:=cf.1 r2;obtain rfl:=jI.1 M;rcases r3 v a rfl rfl with q|⟨t,q⟩
     .exact⟨_,_,_,F,h 0,iR 0,Ey D,Lr (q.own _ _)⟩
     refine⟨_,_,_,F,h t,iR t,Ey D,Lr λ j es sz c x y=>(q j es sz c x y).eG ?_⟩;simp only[zb,jz]
    |v::v2::l,rs,r2,r3=>
     obtain⟨a,Y,rfl,D,M⟩:=cf.1 r2;obtain⟨a2,Y,rfl,q3,q4⟩:=cf.1 M;refine⟨_,_,_,F,h 0,iR 0,?_,(iF (by simp[lD]) rfl).own _ _⟩;have:=KS r2;show aA ρ0 _ (.aL _) (.tuple _);simp only[aA];exact .inr ⟨_,rfl,this⟩
   cases A
  cases A
theorem rS.unique{f:FuncId}{H:ah}{s:aa×ah}(h:rS P ng id0 kk Z7 f args H r)(k:rS P ng id0 kk Z7 f args H s):r=s:=by obtain⟨fn,c,m,e,T,l,F,D,_,h3,_,S,N⟩:=h;obtain⟨J,Y,A,e',T',l',y,q,_,M,_,L,K⟩:=k;rw[F]at y;cases y;rw[D]at q;cases q;have a:=xV (BE m A) h3;grind[xV,Nat.le_max_right,Option.some.injEq,Prod.mk.injEq]
theorem ax6(a:gS Z7){f:FuncId}{H:ah}(h:rS P ng id0 kk Z7 f args H r):gG H r.2:=by obtain⟨fn,c,m,e,T,l,D,A,_,h3,_,y,q⟩:=h;grind[vL,lQ]
theorem ajp(a:nr Z7){f:FuncId}{H:ah}(h:rS P ng id0 kk Z7 f args H r):iz H r.2:=by obtain⟨fn,c,m,e,T,l,D,A,_,h3,_,y,q⟩:=h;grind[YZ,lQ]
def asc(ab:jN P ng Z7)(hg:gS Z7){f:FuncId}{H:ah}{v:aa}(h:rS P ng id0 kk Z7 f args H (v,H')):∀B ρ w M,jj B ng ρ H w->WF H->ju ρ H.next H'.next->cJ ρ args M->
 Calls P f ⟨M⟩ w (λ e w'=>∃x ρ',e=.returned x/\bj ρ' v x/\cp B ng H.objs.get H.next H'.next ρ w H'.objs.get H'.aG.get ρ' w'):=by
 intro B ρ w M s wf L A;obtain⟨fn,c,m,e,T,l,hf,hb,Z,ad,ac,J,hv⟩:=h;obtain rfl:v=jJ l:=hv;have S:M.length=args.length:=lY A;refine calls_of_wp hf hb ?_;have Y:(⟨M⟩:Array Value).size=args.length:=by simpa using S
 rw[Y];refine ayM (B:=B) ab hg m c _ H e T H' ad Z ρ _ w _ s wf L (Of A _) rfl ?_;intro a' w' ρ' hT hd hc;obtain⟨vs,a,F⟩:=Gg (P:=P) hc.bN hT J;have hr:=N3 F
 have N:bj ρ' (jJ l) (IF vs):=by
  clear hr F J
  match l,a with
  |[],a=>obtain rfl:=nH.1 a;exact⟨[],rfl,rfl⟩
  |[x],a=>
   obtain⟨y,ys,rfl,hy,K⟩:=dg.1 a;obtain rfl:=nH.1 K;exact hy
  |x::y::l,a=>
   obtain⟨x',ys,rfl,hx,K⟩:=dg.1 a;obtain⟨y',zs,rfl,hy,ae⟩:=dg.1 K;exact⟨_,rfl,a⟩
 have q:a'.defers=[]/\∃v,(results fn a'.tmps).run P w'=.ok v w'/\∃x D,Ending.returned v=.returned x/\bj D (jJ l) x/\cp B ng H.objs.get H.next H'.next ρ w H'.objs.get H'.aG.get D w':=⟨hd,_,hr,_,ρ',rfl,N,hc⟩;cases e with
 |normal=>exact q
 |ret=>exact q
 |exit id=>exact absurd rfl (ac id)
end
section
open Go.Proofs
variable{F:cZ}{Z7:cI}
def HQ:List CE:=[O 2 (.bx false (.t 0)),O 4 (.tk 4 (.v (.sl [] (some 0))))]
def Hj:List CE:=[O 5 (.mv (.t 1)),O 6 (.bn .lss 3 (.t 5) (.i 0))]
def LG:List CE:=[O 4 (.tk 4 (.v (.sl [] (some 0))))]
def Hk:List CE:=[O 8 (.ld false true 2 (.t 2)),O 9 (.fa 0 (.t 2)),O 10 (.ld false false 1 (.t 9)),O 11 (.mv (.t 1)),O 12 (.ia (some 4) none (.t 10) (.t 11)),O 13 (.fa 1 (.t 12)),O 14 (.ld false false 1 (.t 13)),O 15 (.cl (.f 162) [(.t 8),(.t 14)]),O 7 (.bs 4 [.sc (.str []),.sc (.int .i64 0),.sc (.int .i64 0),.sl [] none] 0 []),O 16 (.ap 4 (.t 7) (.t 15)),O 17 (.fa 0 (.t 2)),O 18 (.ld false false 1 (.t 17)),O 19 (.mv (.t 1)),O 20 (.ia (some 4) none (.t 18) (.t 19)),O 21 (.fa 3 (.t 20)),O 22 (.ld false false 1 (.t 21)),O 23 (.ap 4 (.t 16) (.t 22)),O 4 (.tk 4 (.t 23))]
abbrev G6:List (List Nat):=[[],[],[1],[],[1,2,3],[1,2,3,4],[1,2,3,4,5],[0,1,2,3,4,5,6],[],[0,1,2,3,4,5,6,7,8],[],[10],[],[10,11,12],[10,11,12,13],[10,11,12,13,14],[0,1,2,3,4,5,6,7,8,9,10,11,12,13,14,15],[0,1,2,3,4,5,6,7,8,9,10,11,12,13,14,15,16]]
def JH:cZ:=⟨.seq (.ak HQ (some ([1,2],[2]))) (.seq (.seq (.ak Hj (some ([1,2,6],[2]))) (.cond (.t 6) (.seq (.ak LG (some ([4],[]))) (.ret)) (.skip))) (.seq (.dK Hk G6 (some ([4],[]))) (.ret))),24,[.t 4]⟩
def acd:eV:=⟨[(0,[1,2],[2]),(1,[1,2,6],[2]),(2,[4],[]),(3,[4],[])],[],[7,16,4]⟩
def Lu(P:Program)(id0 k:Nat)(pf:eV)(f:FuncId):Option cZ:=
 match P.funcs[f]?with
 |some fn=>match fn.body with
  |some c=>(match rA id0 k c with
   |true=>match lU P pf (lQ id0 k c),ud P fn.results.toList with
    |some a,some rs=>some ⟨a,fn.ntmps,rs⟩
    |_,_=>none
   |false=>none)
  |none=>none
 |none=>none
theorem ahH{pf:eV}{f:FuncId}(h:Lu P id0 k pf f=some F):∃fn c,P.funcs[f]? =some fn/\fn.body=some c/\rA id0 k c=true/\lU P pf (lQ id0 k c)=some F.c/\fn.ntmps=F.n/\ud P fn.results.toList=some F.r:=by grind[Lu]
theorem acb:Lu af 3 8 acd 162=some JH:=by kernel_rfl
def azF{pol:FuncId->eV}{f:FuncId}{args:List ae}{S:List bI}{r:ae×List bI×Bool}(y:Lu P id0 k (pol f) f=some F)
 (h:bz P gl Z7 F args S=some r):∃m,Jz P id0 k pol gl Z7 m f args S=some r:=by
 obtain⟨fn,c,J,G,_,h3,D,A⟩:=ahH y;unfold bz at h;rw[<-D,<-JI h3,<-Sc A]at h;cases a:xJ P (pol f) gl Z7 (args.length+(fn.ntmps-args.length)) (lQ id0 k c) (lM 0 args) (aH [] S);.rw[a]at h;cases h
 .rename_i x;obtain⟨m,q⟩:=FF.1 a;refine⟨m,?_⟩;rw[a]at h;unfold Jz;simp only[J,G,q];obtain⟨e,T,st⟩:=x;cases e with
  |exit id=>cases h
  |normal=>exact h
  |ret=>exact h
def oG(tn:aS)(i:Nat):aS:=match tn[i]?with
 |some [_,_,_,.sl l _]=>l
 |_=>[]
def eA(tn:aS):Nat->Int->aS
 |0,_=>[]
 |f+1,a=>if a<0 then[]else eA tn f (jc tn a.toNat)++oG tn a.toNat
def ta(tn:aS):Prop:=tn.length<=1000/\∀i,i<tn.length->∃h p a l,tn[i]? =some [h,.sc (.int .i64 p),a,.sl l none]/\ -1<=p/\p<i/\l.length<=1000/\fR 4 l=true
theorem ahu{tn:aS}(h:ta tn):∀{f:Nat} {a:Int},a<tn.length->(eA tn f a).length<=1000*f
 |0,_,_=>iB _
 |f+1,a,D=>by
  unfold eA;split;.exact iB _
  rename_i h0;have hi:a.toNat<tn.length:=by omega
  obtain⟨K,p,J,l,e,y,q,A,_⟩:=h.2 _ hi;have G:(eA tn f (jc tn a.toNat)).length<=1000*f:=ahu h (by simp only[jc,e];omega);grind[oG,List.length_append,Nat.mul_succ]
theorem ah9{tn:aS}(h:ta tn):∀{f:Nat} {a:Int},a<tn.length->fR 4 (eA tn f a)=true
 |0,_,_=>rfl
 |f+1,a,G=>by
  unfold eA;split;.rfl
  rename_i h0;have hi:a.toNat<tn.length:=by omega
  obtain⟨L,p,K,l,e,y,q,D,A⟩:=h.2 _ hi;have J:fR 4 (eA tn f (jc tn a.toNat))=true:=ah9 h (by simp only[jc,e];omega);grind[fR,oG]
theorem agB{tn:aS}(y:ta tn):∀{f g:Nat} {a:Int},a<f->f<=g->a<tn.length->eA tn g a=eA tn f a
 |0,0,a,q,h,h3=>rfl
 |0,g+1,a,q,h,h3=>by grind[eA]
 |f+1,0,a,q,h,h3=>by omega
 |f+1,g+1,a,q,h,h3=>by
  unfold eA;split;.rfl
  have hi:a.toNat<tn.length:=by omega
  obtain⟨L,p,K,l,e,D,A,J,G⟩:=y.2 _ hi;rw[agB y (f:=f) (g:=g) (by simp only[jc,e];omega) (by omega) (by simp only[jc,e];omega)]
def avz{aK:aq}{m:Nat}{z:List ae}{ps:List (Nat×bu)}:pn P gl U aK d (.bs sz z m ps)=aN P gl kF U aK d (.bs sz z m ps):=rfl
def ap5{aK:aq}{x y:bu}:pn P gl U aK d (.ap sz x y)=aN P gl kF U aK d (.ap sz x y):=rfl
def aw6{es:List (Nat×fq)}{b:Bool}{x:Option VR}:mg es (.new b) x=none:=rfl
def axo{aK:aq}{x:bu}:pn P gl U aK d (.tk sz x)=aN P gl kF U aK d (.mv x):=rfl
theorem ays{tn te:aS}(G:ta tn){f:Nat}(hf:f<=1000){a:Int}(ha:a<tn.length)
 (A:0<=a->∀S,Z7 162 [.agg [.sl tn none,.sl te none],eI (jc tn a.toNat)] S=some (.sl (eA tn f (jc tn a.toNat)) (some 4),S,false)) (S:List bI):
 bz af gl Z7 JH [.agg [.sl tn none,.sl te none],eI a] S=some (.sl (eA tn (f+1) a) (some 4),S,false):=by
 by_cases h0:a<0
 .have:eA tn (f+1) a=[]:=by unfold eA;rw[ao h0]
  rw[this];simp+decide only[bz,JH,VB,lk,aB,↓reduceIte,Nat.reduceBEq,Nat.reduceAdd,HQ,Hj,LG,dV h0]
 .obtain⟨i,rfl⟩:∃i:Nat,a=i:=⟨a.toNat,by omega⟩;have hi:i<tn.length:=by omega
  obtain⟨c0,p,c2,l,e,p1,p2,l1,L⟩:=G.2 _ hi;have N:jc tn i=p:=by simp only[jc,e]
  have Z:oG tn i=l:=by simp only[oG,e]
  have M:eA tn (f+1) (i:Int)=eA tn f p++l:=by grind[eA,jc,oG,Int.toNat_natCast]
  have A:=A (by omega);rw[Eo,N]at A;have K:=ahu G (f:=f) (a:=p) (by omega);have Y:=ah9 G (f:=f) (a:=p) (by omega);have J:∀st,iG st 4 (.sl [] (some 4)) (.sl (eA tn f p) (some 4))=some (.sl (eA tn f p) (some 4)):=λ st=>by grind[lZ,List.length_nil]
  have y:∀st,iG st 4 (.sl (eA tn f p) (some 4)) (.sl l none)=some (.sl (eA tn f p++l) (some 4)):=λ st=>lZ (by omega) L
  rw[M];have D:mM 4 (List.replicate 0 [ae.sc (.str []),.sc (.int .i64 0),.sc (.int .i64 0),.sl [] none]) []=some []:=rfl;have h:cy af 162=true:=by kernel_rfl
  have q:∃T',uf af gl Z7 24 Hk G6 [(1,eI i),(2,.ptr S.length 2 0),(6,eB false)] (aH [(2,[.sl tn none,.sl te none])] S)=some (T',(aH [(2,[.sl tn none,.sl te none])] S))/\lk T' 4=some (.sl (eA tn f p++l) (some 4)):=by
   have hx:∃x,A9 G6 (mF af gl Z7 24 G6 (aH [(2,[.sl tn none,.sl te none])] S) Hk 0 ⟨[],[],false,false,[]⟩ [(1,eI i),(2,.ptr S.length 2 0),(6,eB false)] [(1,eI i),(2,.ptr S.length 2 0),(6,eB false)] (aH [(2,[.sl tn none,.sl te none])] S))=some x/\(x.2=(aH [(2,[.sl tn none,.sl te none])] S)/\lk x.1 4=some (.sl (eA tn f p++l) (some 4))):=by simp+decide only[VB,lk,aB,↓reduceIte,Nat.reduceBEq,Nat.reduceAdd,Hk,aY e,aI h,A,J,y,D,avz,ap5,axo,aen,Zb,ZC,Wp,ZZ,afR,acQ,abo,abP,adg,ae7,aaX,aed,aap,XX,aeg,aeX,adP,VF,aw6,aab,adC,acF,Yq,aav,lz,aEb]
   grind[YG]
  obtain⟨T',r1,r2⟩:=q;show mW _ (aJ af gl Z7 24 (.seq (.ak HQ _) (.seq (.seq (.ak Hj _) (.cond (.t 6) (.seq (.ak LG _) .ret) .skip)) (.seq (.dK Hk G6 _) .ret))) _ _)=_;rw[wg];have hA:aJ af gl Z7 24 (.ak HQ (some ([1,2],[2]))) [(0,.agg [.sl tn none,.sl te none]),(1,eI i)] (aH [] S)=some (.normal,[(1,eI i),(2,.ptr S.length 2 0)],(aH [(2,[.sl tn none,.sl te none])] S)):=by simp+decide only[VB,lk,aB,↓reduceIte,Nat.reduceBEq,Nat.reduceAdd,HQ]
  have hB:aJ af gl Z7 24 (.seq (.ak Hj (some ([1,2,6],[2]))) (.cond (.t 6) (.seq (.ak LG (some ([4],[]))) .ret) .skip)) [(1,eI i),(2,.ptr S.length 2 0)] (aH [(2,[.sl tn none,.sl te none])] S)=some (.normal,[(1,eI i),(2,.ptr S.length 2 0),(6,eB false)],(aH [(2,[.sl tn none,.sl te none])] S)):=by simp+decide only[VB,lk,aB,↓reduceIte,Nat.reduceBEq,Nat.reduceAdd,Hj,cX h0]
  refine(dc (λ z=>mW _ (mY _ z)) hA).trans ?_;rw[BX,wg];refine(dc (λ z=>mW _ (mY _ z)) hB).trans ?_;rw[BX,wg,Lf,r1];simp+decide only[VB,lk,aB,↓reduceIte,Nat.reduceBEq,Nat.reduceAdd,r2,JH]
end
end
end Go.Abs
