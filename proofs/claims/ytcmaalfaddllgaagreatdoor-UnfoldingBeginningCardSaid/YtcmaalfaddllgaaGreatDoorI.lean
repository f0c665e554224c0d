/- Library functions in place. -/
import Derived.Test.YtcmaalfaddllgaaGreatDoorH
import Derived.Lib.SlicesCompact
set_option linter.all false
set_option maxRecDepth 100000
namespace Go.Abs
noncomputable section
open Go
variable{H':ah}{P:Program}{U:VT}{args l:List aa}{Z7:aW}{d:Option Tmp}{gl:aM}{i id0 k kk sz:Nat}{r:aa×ah}
section
open Go.Proofs
variable{ng:Nat}{Z7:aW}
def mH(l:List Int):List Int:=l.mergeSort λ x y=>decide (x<=y)
theorem EV(l:List Int):(mH l).length=l.length:=by simp[mH]
def aff(Z7:aW):Prop:=∀(I:Im) (H:ah) (l:List Int) (a:aa),Good H->cu I H.objs.get->RP I (aD l) a->l.length<=1000->∃r,Z7 68 [a] H=some r/\∃fm,cj r.2 1 l.length r.1 (cT l) fm/\kM H fm/\Fr none H r.2/\Good r.2
def YB(Z7:aW):Prop:=∀(H:ah) (s:aa) (a:List Int) (fm:Option Nat),Good H->cj H 1 a.length s (cT a) fm->a.length<=1000->∃H',Z7 295 [s] H=some (.tuple [],H')/\cj H' 1 a.length s (cT (mH a)) fm/\Fr fm H H'/\Good H'
def adZ(Z7:aW):Prop:=∀(H:ah) (s:aa) (a:List Int) (fm:Option Nat),Good H->cj H 1 a.length s (cT a) fm->a.length<=1000->∃s' H',Z7 296 [s] H=some (s',H')/\cj H' 1 (Lib.compact a).length s' (cT (Lib.compact a)) fm/\Fr fm H H'/\Good H'
def akK{H:ah}:ir af Z7 68 l H=Z7 68 l H:=by simp only[ir,Tryz.func68];rfl
def atj{H:ah}:ir af Z7 295 l H=Z7 295 l H:=by simp only[ir,Tryz.func295];rfl
def awM{H:ah}:ir af Z7 296 l H=Z7 296 l H:=by simp only[ir,Tryz.func296];rfl
def avL{I:Im}{H:ah}(g:Good H)(hI:cu I H.objs.get){l:List Int}{a:aa}(hr:RP I (aD l) a)(A:l.length<=1000)(c1:aff Z7)(c2:YB Z7)(c3:adZ Z7):
 ∃r,fI af ng Z7 237 [a] H r/\r.1=.int .i64 ((Lib.compact (mH l)).length:Int)/\Fr none H r.2/\Good r.2:=by
 refine qn Tryz.func237 rfl ?_;show W af ng Z7 11 _ _ _ _;have D:aw (fH [a] 0 .nil) 0=a:=rfl;obtain⟨⟨s,G⟩,S,fm,N,u,M,L⟩:=c1 I H l a g hI hr A;obtain⟨F,p1,y,Z,Y⟩:=c2 G s l fm L N A;have q:=EV l;rw[<-q]at y;obtain⟨s3,H3,r1,r2,r3,r4⟩:=c3 F s (mH l) fm Y y (by omega);refine aO (bW (H':=H) (λ T=>True) ?_ ?_)
 ·(repeat ((first|apply bA (br rfl)|apply bO rfl rfl rfl);simp+decide only[AB,D];rfl))
  exact bF trivial
 intro T1 _ k1;have b0:=(k1 0 rfl).trans D;refine aO (bW (H':=G) (λ T=>aw T 3=s) ?_ ?_)
 ·(repeat ((first|apply bA (br rfl)|apply bO rfl rfl rfl);simp+decide only[AB,b0,jS,oq,akK,S];rfl))
  exact bF (by simp+decide only[AB])
 intro T2 t3 k2;refine aO (bW (H':=F) (λ T=>True) ?_ ?_)
 ·(repeat ((first|apply bA (br rfl)|apply bO rfl rfl rfl);simp+decide only[AB,t3,jS,oq,atj,p1];rfl))
  exact bF trivial
 intro T3 _ k3;have J:=(k3 3 rfl).trans t3;have h:=r2.read.dD Tryz.underlying51;refine aO (bW (H':=H3) (λ T=>aw T 2=.int .i64 (Int.ofNat (Lib.compact (mH l)).length)) ?_ ?_)
 ·(repeat ((first|apply bA (br rfl)|apply bO rfl rfl rfl);simp+decide only[AB,J,jS,oq,awM,r1,h];rfl))
  exact bF (by simp+decide only[AB])
 intro T4 K _;exact oR ⟨by simp,[_],rfl,by simp only[jJ,K];rfl,(M.jE g Z u).jE g r3 u,r4⟩
end
section
variable{P:Program}{ng n B:Nat}{Z7:aW}{Z8:Array Oper}{Q:Exit->Act->World->Prop}{md:Region.Mode}
def sg(k i:Nat):Nat:=if i=0 then k else if i<=k then i- 1 else i
def tW(k j:Nat):Nat:=if j<k then j+1 else if j=k then 0 else j
def O9(k i:Nat):tW k (sg k i)=i:=by
 unfold sg tW;split;.rw[aj (by omega),ao rfl];omega
 split;.rw[ao (by omega)];omega
 rw[aj (by omega),aj (by omega)]
def agp(k j:Nat):sg k (tW k j)=j:=by
 unfold sg tW;split;.rw[aj (by omega),ao (by omega)];omega
 split;.rw[ao rfl];omega
 rw[aj (by omega),aj (by omega)]
def BO(k:Nat)(o:Oper):Oper:={o with after:=(o.after.toList.map λ e=>{e with on:=sg k e.on}).toArray}
def pb(k:Nat)(Z8:Array Oper):Array Oper:=((List.range Z8.size).map λ j=>BO k (Z8.getD (tW k j) default)).toArray
def Xl(k:Nat):(pb k Z8).size=Z8.size:=by simp[pb]
def TB(a:k<Z8.size)(hi:i<Z8.size):sg k i<Z8.size:=by
 unfold sg;split;.exact a
 split<;>omega
def apk(a:k<Z8.size)(hi:i<Z8.size):tW k i<Z8.size:=by
 unfold tW;split;.omega
 split<;>omega
def QG(q:k<Z8.size){o:Oper}(h:Z8[i]? =some o):(pb k Z8)[sg k i]? =some (BO k o):=by have hi:i<Z8.size:=(BI.1 h).1;have a:=TB q hi;simp only[pb,List.getElem?_toArray,bM,Et a,lA,O9];rw[kW,h];rfl
def SD(Z8:Array Oper):Bool:=Z8.toList.all λ o=>o.guard.isNone
def GS{a:Array Bool}:i∈Region.ready md Z8 a↔∃o,Z8[i]? =some o/\a.getD i true=false/\∀e∈o.after.toList,Region.binds md e=true->a.getD e.on false=true:=by
 unfold Region.ready;rw[Vq,zD];constructor
 .rintro⟨A,q⟩
  have h:Z8[i]? =some Z8[i]:=uj A;simp only[aR,Ia,h,lA,Eh]at q;refine⟨_,h,q.1,λ e u y=>?_⟩;have:=q.2;rw[air]at this;have:=this e (by simpa using u);rw[y]at this;simpa using this
 rintro⟨o,h,A,q⟩
 have hi:i<Z8.size:=(BI.1 h).1;refine⟨hi,?_⟩;simp only[aR,Ia,h,lA,Eh];refine⟨A,?_⟩;rw[air];intro e u;cases y:Region.binds md e;.rfl
 simpa using q e (by simpa using u) y
def M9{l:Array Bool}(h:i<l.size):l.getD i true=l.getD i false:=by simp only[kW,uj h,Eh]
def akX(K:k<Z8.size)(hg:SD Z8=true):∀{q:Nat} {listed listed':Array Bool} {a:Act} {w:World},listed.size=Z8.size->listed'.size=Z8.size->(∀i,listed'.getD (sg k i) false=listed.getD i false)->
 wpAny P md (pb k Z8) Q q listed' a w->wpAny P md Z8 Q q listed a w:=by
 have rd:∀{listed listed':Array Bool},listed.size=Z8.size->listed'.size=Z8.size->(∀i,listed'.getD (sg k i) false=listed.getD i false)->∀i,i∈Region.ready md Z8 listed->sg k i∈Region.ready md (pb k Z8) listed':=by
  intro listed listed' J F h i hi;obtain⟨o,A,h3,h4⟩:=GS.1 hi;have u:i<Z8.size:=(BI.1 A).1;refine GS.2 ⟨_,QG K A,?_,λ e M hb=>?_⟩;.rw[M9 (by rw[F];exact TB K u),h i,<-M9 (by omega)];exact h3
  simp only[BO,eK]at M;obtain⟨e',G,rfl⟩:=M;show listed'.getD (sg k e'.on) false=true;rw[h];exact h4 e' G hb
 have Z:∀{listed listed':Array Bool},listed.size=Z8.size->listed'.size=Z8.size->(∀i,listed'.getD (sg k i) false=listed.getD i false)->Region.ready md Z8 listed=[]->Region.ready md (pb k Z8) listed'=[]:=by
  intro listed listed' J F h M;rw[aBg];intro j hj;obtain⟨o,A,h3,h4⟩:=GS.1 hj;have u:j<Z8.size:=by have:=(BI.1 A).1;rw[Xl]at this;exact this
  have ac:=apk K u;have S:Z8[tW k j]? =some Z8[tW k j]:=uj ac;have L:=QG K S;rw[agp,A]at L;cases L
  have:tW k j∈Region.ready md Z8 listed:=by
   refine GS.2 ⟨_,S,?_,λ e G hb=>?_⟩;.rw[M9 (by omega),<-h,agp,<-M9 (by omega)];exact h3
   rw[<-h];exact h4 {e with on:=sg k e.on} (by simp only[BO,eK];exact⟨e,G,rfl⟩) hb
  rw[M]at this;cases this
 intro q;induction q with
 |zero=>
  intro listed listed' a w J F h N;refine⟨?_,N.2⟩;rw[aBg];intro i hi;have:=rd J F h i hi;rw[N.1]at this;cases this
 |succ q ih=>
  intro listed listed' a w J F h N;refine⟨λ M=>N.1 (Z J F h M),λ i hi=>?_⟩;have D:=N.2 _ (rd J F h i hi);obtain⟨o,A,_,_⟩:=GS.1 hi;have u:i<Z8.size:=(BI.1 A).1
  have Y:o.guard=none:=by
   have:=ij.1 hg o (by rw[Array.mem_toList_iff];exact aiO A)
   simpa using this
  have ab:∀a w,wpAny P md (pb k Z8) Q q (listed'.setIfInBounds (sg k i) true) a w->wpAny P md Z8 Q q (listed.setIfInBounds i true) a w:=by
   intro a w hx;refine ih (by simpa using J) (by simpa using F) (λ j=>?_) hx;by_cases e:j=i;.subst e;rw[kW,ais (by rw[F];exact TB K u),kW,ais (by omega)]
   have e2:sg k i≠sg k j:=λ L=>e (by have:=dc (tW k) L;rw[O9,O9]at this;exact this.symm)
   have:=h j;rw[kW,kW]at this;rw[kW,Vg e2,kW,Vg (λ L=>e L.symm)];exact this
  unfold wpOp at D⊢;rw[QG K A]at D;rw[A];simp only at D⊢;have w1:∀y,Region.wanted o y=true:=λ y=>by unfold Region.wanted;rw[Y]
  have w2:∀y,Region.wanted (BO k o) y=true:=λ y=>by unfold Region.wanted;rw[show(BO k o).guard=none from Y]
  rw[ao (w1 _)];rw[ao (w2 _)]at D;rcases D with D|D
  .exact .inl (Oper.wp_mono ab (show o.wp P a w _ Q from D))
  exact .inr D
end
section
variable{T T':Tr aa}{a:Act}{Z8:Array Oper}{ρ:cr}
variable{P:Program}{ng n B:Nat}{Z7:aW}
def ak1{Z8:Array Oper}(am:jN P ng Z7)(ad:gS Z7)(af:wj Z8=true){H:ah}{w:World}{Q:Exit->Act->World->Prop}
 (h:jn P ng Z7 n Z8 T H true=some (T',H')) (s:jj B ng ρ H w) (wf:WF H) (ac:ju ρ H.next H'.next) (hT:fi ρ n T a.tmps) (hd:a.defers=[])
 (hQ:∀a' w' ρ',fi ρ' n T' a'.tmps->a'.defers=[]->cp B ng H.objs.get H.next H'.next ρ w H'.objs.get H'.aG.get ρ' w'->Q .normal a' w'):
 ∀md,uK md Z8 (Region.linearise md Z8 0) []=true->wpAny P md Z8 Q Z8.size (Array.replicate Z8.size false) a {w with drawn:=w.drawn+1}:=by
 have h:nL P ng (cO Z8) H.objs (gF P ng Z7 n Z8.toList (cO Z8) Z8.toList 0 ⟨[],[],[]⟩ T H)=some (T',H'):=h;unfold nL at h;split at h
 .rename_i S T1 H1 M;split at h
  .rename_i G;cases h;simp only[wj,aR]at af;obtain⟨K,Ht,vt,wt,tx,ai,A,av,ak⟩:=adN (Bh M);have Z:gF P ng Z7 n Z8.toList (cO Z8) Z8.toList 0 ⟨kL Z8 wt 0,jX Z8 Ht wt 0,lS Z8 K vt wt 0⟩ (K 0) (Ht 0)=some (S,T',H'):=by rw[ai,A];exact M
   obtain⟨hS,au⟩:=Nk tx (cM) (iB _) Z;subst hS
   have D:∀k i,i<k->(kind Z8 wt i=2\/kind Z8 wt i=3)->i∈kL Z8 wt k:=by
    intro k;induction k with
    |zero=>intro i hi;omega
    |succ k u=>
     intro i hi y;simp only[kL];rcases rJ (BD hi)with rfl|F
     .rw[ao y];simp
     split;.exact cz _ (u i F y)
     exact u i F y
   have Y:∀k j o,j<k->Z8[j]? =some o->kind Z8 wt j=1->(j,K j,o.op,vt j)∈lS Z8 K vt wt k:=by
    intro k;induction k with
    |zero=>intro j o hj;omega
    |succ k u=>
     intro j o hj ho y;simp only[lS];rcases rJ (BD hj)with rfl|F
     .rw[ao y];simp[ho]
     split;.exact cz _ (u j o F ho y)
     exact u j o F ho y
   have d:AW P ng Z7 n Z8 K Ht vt wt:={
    tx:=tx,ok:=am,grow:=ad,wf:=by rw[A];exact wf,apart:=af.2,
    chain:=λ k y i ar ap=>au k (iB _) (Hx (by rw[y];decide)) y i (D k i ar ap),
    reads:=λ j o ho y p hp al up hup=>by have aq:=Hx (i:=j) (Z8:=Z8) (wt:=wt) (by rw[y];decide);have:=Pu G _ (Y Z8.size j o aq ho y);rw[<-A]at this;exact IM Z8.size none this p hp al up hup}
   have ae:A7 ng n B Z8 K Ht vt wt ρ w (λ i=>(Array.replicate Z8.size false).getD i false) a {w with drawn:=w.drawn+1}:=by
    have J:∀i,(Array.replicate Z8.size false).getD i false=false:=by intro i;simp only[kW,Nr];split<;>rfl
    have hg:∀k,fE Z8 Ht wt 0 (λ i=>(Array.replicate Z8.size false).getD i false) k=(λ _=>none)/\jq Z8 Ht wt 0 (λ i=>(Array.replicate Z8.size false).getD i false) k=(λ _=>none):=by
     intro k;induction k with
     |zero=>exact⟨rfl,rfl⟩
     |succ k u=>simp only[fE,jq];rw[aj (by rw[J];simp),aj (by rw[J];simp)];exact u
    have aw:∀k,TL n Z8 K vt (λ i=>(Array.replicate Z8.size false).getD i false) k=K 0:=by
     intro k;induction k with
     |zero=>rfl
     |succ k u=>simp only[TL];rw[aj (by rw[J];simp)];exact u
    refine⟨ρ,0,hd,by rw[aw,ai];exact hT,iB _,.inl rfl,λ q _=>by simp[J],λ i hi _=>?_,?_⟩;.have N:=(nU ad tx i 0 (iB _) (by omega)).1;have h2:=(nU ad tx Z8.size (i+1) hi (be _)).1;rw[A]at N;rw[ak]at h2;exact ac.sub N h2
    rw[(hg Z8.size).1,(hg Z8.size).2,A];exact{cp.refl s _ _ with bN:=s}
   have ax:∀a w' ρ',a.defers=[]->fi ρ' n (K Z8.size) a.tmps->cp B ng (Ht 0).objs.get (Ht 0).next (Ht Z8.size).next ρ w (Ht Z8.size).objs.get (Ht Z8.size).aG.get ρ' w'->Q .normal a w':=by intro a' w' ρ' N h2 h3;rw[av]at h2;rw[A,ak]at h3;exact hQ a' w' ρ' h2 N h3
   have ab:qi (λ i=>(Array.replicate Z8.size false).getD i false) Z8.size<=Z8.size:=by
    have:∀(L:Nat->Bool) k,qi L k<=k:=by
     intro L k;induction k with
     |zero=>exact be _
     |succ k u=>simp only[qi];split<;>omega
    exact this _ _
   have ag:∀i o e,(Array.replicate Z8.size false).getD i false=true->Z8[i]? =some o->e∈o.after.toList->Region.binds .any e=true->(Array.replicate Z8.size false).getD e.on false=true:=by intro i o e N;simp only[kW,Nr]at N;split at N<;>cases N
   exact λ md an=>agP d an ax Z8.size _ a _ (by simp) ag ae ab
  cases h
 .cases h
def aj9(K:k<Z8.size)(L:SD Z8=true)(A:jN P ng Z7)(G:gS Z7)(y:wj (pb k Z8)=true){id:Nat}{H:ah}{w:World}{Q:Exit->Act->World->Prop}
 (h:jn P ng Z7 n (pb k Z8) T H true=some (T',H')) (s:jj B ng ρ H w) (wf:WF H) (u:ju ρ H.next H'.next) (N:fi ρ n T a.tmps) (M:a.defers=[])
 (S:∀J w' ρ',fi ρ' n T' J.tmps->J.defers=[]->cp B ng H.objs.get H.next H'.next ρ w H'.objs.get H'.aG.get ρ' w'->Q .normal J w'):(Code.region id Z8 true).wp P Q a w:=by
 have q:=y;simp only[wj,aR]at q;have all:=ak1 (B:=B) (Q:=Q) A G y h s wf u N M S
 have F:∀i,(Array.replicate Z8.size false).getD (sg k i) false=(Array.replicate Z8.size false).getD i false:=by
  have:∀i,(Array.replicate Z8.size false).getD i false=false:=by intro i;simp only[kW,Nr];split<;>rfl
  intro i;rw[this,this]
 have any:∀md,uK md (pb k Z8) (Region.linearise md (pb k Z8) 0) []=true->∀t,wpOps P Z8 Q (Region.linearise md Z8 t) a {w with drawn:=w.drawn+1}:=λ md D t=>by have:=all md D;rw[Xl]at this;exact wpAny_sound Z8.size t _ a _ (akX K L (by simp) (by simp) F this)
 refine wp_region_draw λ t=>?_
 unfold Region.schedule;split;.exact any .any q.1.1.1 t
 .split;.exact any .text q.1.1.2 _
  exact any .gc q.1.2 _
def lQ(id0 k:Nat):Code->Code
 |.region id Z8 d=>if id=id0 then .region id (pb k Z8) d else .region id Z8 d
 |.seq a b=>.seq (lQ id0 k a) (lQ id0 k b)
 |.cond x a b=>.cond x (lQ id0 k a) (lQ id0 k b)
 |.skip=>.skip
 |.ret=>.ret
 |_=>.exit 0
def rA(id0 k:Nat):Code->Bool
 |.region id Z8 d=>if id=id0 then d&&(decide (k<Z8.size)&&(SD Z8&&wj (pb k Z8)))else(!d||wj Z8)
 |.seq a b=>rA id0 k a&&rA id0 k b
 |.cond _ a b=>rA id0 k a&&rA id0 k b
 |.skip=>true
 |.ret=>true
 |_=>false
def ayM(Z:jN P ng Z7)(D:gS Z7):∀(m:Nat) (c:Code) (T:Tr aa) (H:ah) (e:eE) (T':Tr aa) (H':ah),aZ P ng Z7 n m (lQ id0 k c) T H=some (e,T',H')->rA id0 k c=true->
 ∀(ρ:cr) (a:Act) (w:World) (Q:Exit->Act->World->Prop),jj B ng ρ H w->WF H->ju ρ H.next H'.next->fi ρ n T a.tmps->a.defers=[]->
 (∀M w' ρ',fi ρ' n T' M.tmps->M.defers=[]->cp B ng H.objs.get H.next H'.next ρ w H'.objs.get H'.aG.get ρ' w'->Q e.up M w')->c.wp P Q a w:=by
 intro m;induction m with
 |zero=>intro c T H e T' H' h;cases h
 |succ m u=>
  intro c T H e T' H' h q ρ a w Q s wf J A F G;cases c with
  |skip=>cases h;exact wp_skip (G a w ρ A F (cp.refl s _ _))
  |region id Z8 d=>
   simp only[lQ]at h;simp only[rA]at q;by_cases ab:id=id0
   .rw[ao ab]at h q;simp only[aR,Ek]at q;obtain⟨rfl,h2,h3,h4⟩:=q;change px (jn P ng Z7 n (pb k Z8) T H true)=_ at h;unfold px at h;split at h;.rename_i N S hr;cases h;exact aj9 h2 h3 Z D h4 hr s wf J A F G
    cases h
   rw[aj ab]at h q;change px (jn P ng Z7 n Z8 T H d)=_ at h;unfold px at h;split at h;.rename_i N S hr;cases h;refine ace Z D (λ af=>?_) hr s wf J A F G;simpa[af]using q
   cases h
  |seq x y=>
   change iL (aZ P ng Z7 n m (lQ id0 k y)) (aZ P ng Z7 n m (lQ id0 k x) T H)=_ at h;simp only[rA,aR]at q;refine wp_seq ?_;rcases AU h with⟨N,S,h1,h2⟩|⟨h1,hn⟩
   .have g1:=vL D m (lQ id0 k x) T H _ N S h1;have g2:=vL D m (lQ id0 k y) N S e T' H' h2;refine u x T H _ N S h1 q.1 ρ a w _ s wf (J.sub (be _) g2.1) A F (λ M w' ρ' L K hc=>?_);exact u y N S e T' H' h2 q.2 ρ' M w' Q hc.bN (g1.2 wf) (J.CN hc g1.1) L K (λ ai ae Y ad ac ag=>G ai ae Y ad ac (hc.trans ag g1.1 g2.1))
   refine u x T H e T' H' h1 q.1 ρ a w _ s wf J A F (λ M w' ρ' L K hc=>?_);have:=G M w' ρ' L K hc;cases e with
   |normal=>exact absurd rfl hn
   |exit id=>exact this
   |ret=>exact this
  |cond x y z=>
   change mq (aZ P ng Z7 n m (lQ id0 k y) T H) (aZ P ng Z7 n m (lQ id0 k z) T H) (aU ng T x)=_ at h;simp only[rA,aR]at q;unfold mq at h;split at h;.rename_i hx;exact wp_cond_true (fP A s.iT hx) (u y T H e T' H' h q.1 ρ a w Q s wf J A F G)
   .rename_i hx;exact wp_cond_false (fP A s.iT hx) (u z T H e T' H' h q.2 ρ a w Q s wf J A F G)
   cases h
  |ret=>cases h;exact wp_ret (G a w ρ A F (cp.refl s _ _))
  |_=>cases q
end
section
variable{P:Program}{ng n B:Nat}{gl:aM}{G:Gh}{H:ah}
def rS(P:Program)(ng id0 kk:Nat)(Z7:aW)(f:FuncId)(args:List aa)(H:ah)(r:aa×ah):Prop:=∃fn c m e T l,P.funcs[f]? =some fn/\fn.body=some c/\rA id0 kk c=true/\aZ P ng Z7 (args.length+(fn.ntmps-args.length)) m (lQ id0 kk c) (fH args 0 .nil) H=some (e,T,r.2)/\(∀id,e≠.exit id)/\jL P r.2.objs.get T fn.results.toList=some l/\r.1=jJ l
def Jz(P:Program)(id0 kk:Nat)(pol:FuncId->eV)(gl:aM)(Z7:cI)(m:Nat)(f:FuncId)(args:List ae)(S:List bI):Option (ae×List bI×Bool):=
 match P.funcs[f]?with
 |none=>none
 |some fn=>
  match fn.body with
  |none=>none
  |some c=>
   match eN P (pol f) gl Z7 (args.length+(fn.ntmps-args.length)) m (lQ id0 kk c) (lM 0 args) (aH [] S)with
   |some (.exit _,_,_)=>none
   |some (_,T,st)=>match tV P st T fn.results.toList with
    |some l=>some (lD l,st.up,st.w)
    |none=>none
   |none=>none
def auV{Z7:cI}{acall:aW}(M:mz ng gl Z7 acall){pol:FuncId->eV}{m:Nat}{f:FuncId}{args:List ae}{S S1:List bI}{v:ae}{w dt:Bool}(D:Jz P id0 kk pol gl Z7 m f args S=some (v,S1,w))(ac:∀fn c,P.funcs[f]? =some fn->fn.body=some c->rA id0 kk c=true)(hs:args.map bD=args)
 (hv:cn G (dA S) H) (hg:kJ ng gl G) {xs0:List aa} (hr:bB (cut S.length G.ρ) G.I args xs0) (ak:∀d k,(bE (dA S) d k).isSome=true->w=true->ja (mZ dt) d k):
 ∃a H' G',rS P ng id0 kk acall f xs0 H (a,H')/\cn G' (dA S1) H'/\cw S.length G (dA S) H G' (dA S1) H' (ja (mZ dt)) (λ _=>True)/\aA ρ0 G'.I v a/\mw G' (.tmp S.length 0) v.cells a.cells:=by
 unfold Jz at D;split at D;.cases D
 .rename_i fn hf;split at D;.cases D
  rename_i c hc;split at D;.cases D
  .rename_i e T2 bU ag ai;split at D
   .rename_i l hl;cases D;have ad:Ok ng gl S.length G (lM 0 args) (fH xs0 0 .nil) (dA S) H:=⟨hv,Xd hr hs,rfl,hg⟩;obtain⟨hw,al,H2,G2,e1,Z,K⟩:=OH M m (lQ id0 kk c) ad ai;obtain⟨rs,r1,r2,r3⟩:=GZ (P:=P) Z.bN Z.tmp hl;have N:xs0.length=args.length:=pz hr;have ab:=Z.gC;have L:∀d k cs,bE (dA bU.up) d k=some cs->bE bU d k=some cs:=by intro d k cs e;rw[yo]at e;unfold bE;rw[aj (by have:=cY e;omega)];exact e
    have af:∀k,bE (dA S) S.length k=none:=by
     intro k;rw[yo];cases e:b7 S S.length k;.rfl
     rename_i cs;have:=cY e;omega
    have iR:∀t,cw S.length G (dA S) H (eG G2 (zb S.length t)) (dA bU.up) H2 (ja (mZ dt)) (λ _=>True):=by
     intro t;refine⟨K.im,K.mh,λ k hk=>(hk trivial).elim,λ d k u a b c=>?_,K.next,λ u hu=>?_,λ f s a b=>?_,ab,K.nJ,λ f s a b=>?_,K.aG⟩;.refine K.live d k u ?_ b c;obtain⟨cs,M⟩:=pI.1 a;rw[L d k cs M];rfl
     .rcases K.rows u hu with q|⟨d,k,A,F,q3⟩
      .exact .inl q
      rcases A with A|A
      .rw[A,af]at F;cases F
      exact .inr ⟨d,k,ak d k F A,F,q3⟩
     .obtain⟨A,F⟩:=K.sD f s a b;refine⟨?_,F⟩;show(G2.own f).bind _=some s;rw[A];cases s with
      |tmp d i j=>
       have:d<S.length:=a;simp only[xu,zb];rw[aj (by omega)]
      |box _ _ _=>exact a.elim
      |up s=>rfl
     obtain⟨s',q⟩:=xK a;exact K.qM f s' q b
    have J:rS P ng id0 kk acall f xs0 H (jJ rs,H2):=by
     refine⟨fn,c,m,e,al,rs,hf,hc,ac fn c hf hc,?_,λ id he=>?_,r1,rfl⟩;.rw[N];exact e1
     subst he;exact ag id rfl
    have h:∀t,cn (eG G2 (zb S.length t)) (dA bU.up) H2:=λ t=>(Z.bN.sub L).eG λ _ _ _=>rfl
    match l,rs,r2,r3 with
    |[],rs,r2,r3=>
     obtain rfl:=jI.1 r2;exact⟨_,_,_,J,h 0,iR 0,by simp[lD,aA],(iF (by simp[lD]) rfl).own _ _⟩
    |[v],rs,r2,r3=>
     obtain⟨a,Y,rfl,A,F⟩:=cf.1 r2;obtain rfl:=jI.1 F;rcases r3 v a rfl rfl with q|⟨t,q⟩
     .exact⟨_,_,_,J,h 0,iR 0,Ey A,Lr (q.own _ _)⟩
     refine⟨_,_,_,J,h t,iR t,Ey A,Lr λ j es sz c x y=>(q j es sz c x y).eG ?_⟩;simp only[zb,jz]
    |v::v2::l,rs,r2,r3=>
     obtain⟨a,Y,rfl,A,F⟩:=cf.1 r2;obtain⟨a2,Y,rfl,q3,q4⟩:=cf.1 F;refine⟨_,_,_,J,h 0,iR 0,?_,(iF (by simp[lD]) rfl).own _ _⟩;have:=KS r2;show aA ρ0 _ (.aL _) (.tuple _);simp only[aA];exact .inr ⟨_,rfl,this⟩
   cases D
  cases D
theorem rS.unique{f:FuncId}{H:ah}{s:aa×ah}(h:rS P ng id0 kk Z7 f args H r)(k:rS P ng id0 kk Z7 f args H s):r=s:=by obtain⟨fn,c,m,e,T,l,M,L,_,h3,_,J,F⟩:=h;obtain⟨N,S,u,e',Y,l',D,A,_,K,_,q,y⟩:=k;rw[M]at D;cases D;rw[L]at A;cases A;have a:=xV (BE m u) h3;have b:=xV (xw m u) K;rw[a]at b;cases r;cases s;simp only[lz,Ei]at b;obtain⟨_,rfl,rfl⟩:=b;simp only at J q F y;rw[J]at q;cases q;rw[F,y]
def ax6(a:gS Z7){f:FuncId}{H:ah}(h:rS P ng id0 kk Z7 f args H r):gG H r.2:=by obtain⟨fn,c,m,e,T,l,A,y,_,h3,_,u,q⟩:=h;exact vL a _ (lQ id0 kk c) _ H e T r.2 h3
def ajp(a:nr Z7){f:FuncId}{H:ah}(h:rS P ng id0 kk Z7 f args H r):iz H r.2:=by obtain⟨fn,c,m,e,T,l,A,y,_,h3,_,u,q⟩:=h;exact YZ a _ (lQ id0 kk c) _ H e T r.2 h3
def asc(Z:jN P ng Z7)(hg:gS Z7){f:FuncId}{H:ah}{v:aa}(h:rS P ng id0 kk Z7 f args H (v,H')):∀B ρ w L,jj B ng ρ H w->WF H->ju ρ H.next H'.next->cJ ρ args L->
 Calls P f ⟨L⟩ w (λ e w'=>∃x ρ',e=.returned x/\bj ρ' v x/\cp B ng H.objs.get H.next H'.next ρ w H'.objs.get H'.aG.get ρ' w'):=by
 intro B ρ w L s wf K u;obtain⟨fn,c,m,e,T,l,hf,hb,Y,ac,ab,F,hv⟩:=h;obtain rfl:v=jJ l:=hv;have N:L.length=args.length:=lY u;refine calls_of_wp hf hb ?_;have S:(⟨L⟩:Array Value).size=args.length:=by simpa using N
 rw[S];refine ayM (B:=B) Z hg m c _ H e T H' ac Y ρ _ w _ s wf K (Of u _) rfl ?_;intro a' w' ρ' hT hd hc;obtain⟨vs,a,D⟩:=Gg (P:=P) hc.bN hT F;have hr:=N3 D
 have M:bj ρ' (jJ l) (IF vs):=by
  clear hr D F
  match l,a with
  |[],a=>obtain rfl:=nH.1 a;exact⟨[],rfl,rfl⟩
  |[x],a=>
   obtain⟨y,ys,rfl,hy,J⟩:=dg.1 a;obtain rfl:=nH.1 J;exact hy
  |x::y::l,a=>
   obtain⟨x',ys,rfl,hx,J⟩:=dg.1 a;obtain⟨y',zs,rfl,hy,ad⟩:=dg.1 J;exact⟨_,rfl,a⟩
 have q:a'.defers=[]/\∃v,(results fn a'.tmps).run P w'=.ok v w'/\∃x A,Ending.returned v=.returned x/\bj A (jJ l) x/\cp B ng H.objs.get H.next H'.next ρ w H'.objs.get H'.aG.get A w':=⟨hd,_,hr,_,ρ',rfl,M,hc⟩;cases e with
 |normal=>exact q
 |ret=>exact q
 |exit id=>exact absurd rfl (ab id)
end
section
open Go.Proofs
variable{F:cZ}{Z7:cI}
def HQ:List CE:=[O 2 (.bx false (.t 0)),O 4 (.tk 4 (.v (.sl [] (some 0))))]
def Hj:List CE:=[O 5 (.mv (.t 1)),O 6 (.bn .lss 3 (.t 5) (.i 0))]
def LG:List CE:=[O 4 (.tk 4 (.v (.sl [] (some 0))))]
def Hk:List CE:=[O 8 (.ld false true 2 (.t 2)),O 9 (.fa 0 (.t 2)),O 10 (.ld false false 1 (.t 9)),O 11 (.mv (.t 1)),O 12 (.ia (some 4) none (.t 10) (.t 11)),O 13 (.fa 1 (.t 12)),O 14 (.ld false false 1 (.t 13)),O 15 (.cl (.f 136) [(.t 8),(.t 14)]),O 7 (.bs 4 [.sc (.str []),.sc (.int .i64 0),.sc (.int .i64 0),.sl [] none] 0 []),O 16 (.ap 4 (.t 7) (.t 15)),O 17 (.fa 0 (.t 2)),O 18 (.ld false false 1 (.t 17)),O 19 (.mv (.t 1)),O 20 (.ia (some 4) none (.t 18) (.t 19)),O 21 (.fa 3 (.t 20)),O 22 (.ld false false 1 (.t 21)),O 23 (.ap 4 (.t 16) (.t 22)),O 4 (.tk 4 (.t 23))]
abbrev G6:List (List Nat):=[[],[],[1],[],[1,2,3],[1,2,3,4],[1,2,3,4,5],[0,1,2,3,4,5,6],[],[0,1,2,3,4,5,6,7,8],[],[10],[],[10,11,12],[10,11,12,13],[10,11,12,13,14],[0,1,2,3,4,5,6,7,8,9,10,11,12,13,14,15],[0,1,2,3,4,5,6,7,8,9,10,11,12,13,14,15,16]]
def JH:cZ:=⟨.seq (.ak HQ (some ([1,2],[2]))) (.seq (.seq (.ak Hj (some ([1,2,6],[2]))) (.cond (.t 6) (.seq (.ak LG (some ([4],[]))) (.ret)) (.skip))) (.seq (.dK Hk G6 (some ([4],[]))) (.ret))),24,[.t 4]⟩
def acd:eV:=⟨[(0,[1,2],[2]),(1,[1,2,6],[2]),(2,[4],[]),(3,[4],[])],[],[7,16,4]⟩
def Lu(P:Program)(id0 k:Nat)(pf:eV)(f:FuncId):Option cZ:=
 match P.funcs[f]?with
 |some fn=>match fn.body with
  |some c=>(match rA id0 k c with
   |true=>match lU P pf (lQ id0 k c),ud P fn.results.toList with
    |some a,some rs=>some ⟨a,fn.ntmps,rs⟩
    |_,_=>none
   |false=>none)
  |none=>none
 |none=>none
def ahH{pf:eV}{f:FuncId}(h:Lu P id0 k pf f=some F):∃fn c,P.funcs[f]? =some fn/\fn.body=some c/\rA id0 k c=true/\lU P pf (lQ id0 k c)=some F.c/\fn.ntmps=F.n/\ud P fn.results.toList=some F.r:=by
 unfold Lu at h;split at h
 .rename_i fn q;split at h
  .rename_i c u;split at h
   .rename_i a;split at h;.rename_i D rs A y;cases h;exact⟨fn,c,q,u,a,A,rfl,y⟩
    cases h
   cases h
  cases h
 cases h
def acb:Lu af 3 8 acd 136=some JH:=by kernel_rfl
def azF{pol:FuncId->eV}{f:FuncId}{args:List ae}{S:List bI}{r:ae×List bI×Bool}(u:Lu P id0 k (pol f) f=some F)
 (h:bz P gl Z7 F args S=some r):∃m,Jz P id0 k pol gl Z7 m f args S=some r:=by
 obtain⟨fn,c,G,D,_,h3,A,y⟩:=ahH u;unfold bz at h;rw[<-A,<-JI h3,<-Sc y]at h;cases a:xJ P (pol f) gl Z7 (args.length+(fn.ntmps-args.length)) (lQ id0 k c) (lM 0 args) (aH [] S);.rw[a]at h;cases h
 .rename_i x;obtain⟨m,q⟩:=FF.1 a;refine⟨m,?_⟩;rw[a]at h;unfold Jz;simp only[G,D,q];obtain⟨e,T,st⟩:=x;cases e with
  |exit id=>cases h
  |normal=>exact h
  |ret=>exact h
def oG(tn:aS)(i:Nat):aS:=match tn[i]?with
 |some [_,_,_,.sl l _]=>l
 |_=>[]
def eA(tn:aS):Nat->Int->aS
 |0,_=>[]
 |f+1,a=>if a<0 then[]else eA tn f (jc tn a.toNat)++oG tn a.toNat
def ta(tn:aS):Prop:=tn.length<=1000/\∀i,i<tn.length->∃h p a l,tn[i]? =some [h,.sc (.int .i64 p),a,.sl l none]/\ -1<=p/\p<i/\l.length<=1000/\fR 4 l=true
def ahu{tn:aS}(h:ta tn):∀{f:Nat} {a:Int},a<tn.length->(eA tn f a).length<=1000*f
 |0,_,_=>iB _
 |f+1,a,A=>by
  unfold eA;split;.exact iB _
  rename_i h0;have hi:a.toNat<tn.length:=by omega
  obtain⟨K,p,J,l,e,y,u,q,_⟩:=h.2 _ hi;have G:(eA tn f (jc tn a.toNat)).length<=1000*f:=ahu h (by simp only[jc,e];omega);have D:(oG tn a.toNat).length<=1000:=by simp only[oG,e];exact q
  rw[dM,Nat.mul_succ];omega
def ah9{tn:aS}(h:ta tn):∀{f:Nat} {a:Int},a<tn.length->fR 4 (eA tn f a)=true
 |0,_,_=>rfl
 |f+1,a,J=>by
  unfold eA;split;.rfl
  rename_i h0;have hi:a.toNat<tn.length:=by omega
  obtain⟨L,p,K,l,e,D,A,G,q⟩:=h.2 _ hi;have y:fR 4 (eA tn f (jc tn a.toNat))=true:=ah9 h (by simp only[jc,e];omega);have u:fR 4 (oG tn a.toNat)=true:=by simp only[oG,e];exact q
  unfold fR at*;rw[List.all_append,y,u];rfl
def agB{tn:aS}(u:ta tn):∀{f g:Nat} {a:Int},a<f->f<=g->a<tn.length->eA tn g a=eA tn f a
 |0,0,a,q,h,h3=>rfl
 |0,g+1,a,q,h,h3=>by
  unfold eA;have:a<0:=by omega
  rw[ao this]
 |f+1,0,a,q,h,h3=>by omega
 |f+1,g+1,a,q,h,h3=>by
  unfold eA;split;.rfl
  have hi:a.toNat<tn.length:=by omega
  obtain⟨K,p,J,l,e,A,y,G,D⟩:=u.2 _ hi;rw[agB u (f:=f) (g:=g) (by simp only[jc,e];omega) (by omega) (by simp only[jc,e];omega)]
def avz{aK:aq}{m:Nat}{z:List ae}{ps:List (Nat×bu)}:pn P gl U aK d (.bs sz z m ps)=aN P gl kF U aK d (.bs sz z m ps):=rfl
def ap5{aK:aq}{x y:bu}:pn P gl U aK d (.ap sz x y)=aN P gl kF U aK d (.ap sz x y):=rfl
def aw6{es:List (Nat×fq)}{b:Bool}{x:Option VR}:mg es (.new b) x=none:=rfl
def axo{aK:aq}{x:bu}:pn P gl U aK d (.tk sz x)=aN P gl kF U aK d (.mv x):=rfl
def ays{tn te:aS}(K:ta tn){f:Nat}(hf:f<=1000){a:Int}(ha:a<tn.length)
 (A:0<=a->∀S,Z7 136 [.agg [.sl tn none,.sl te none],eI (jc tn a.toNat)] S=some (.sl (eA tn f (jc tn a.toNat)) (some 4),S,false)) (S:List bI):
 bz af gl Z7 JH [.agg [.sl tn none,.sl te none],eI a] S=some (.sl (eA tn (f+1) a) (some 4),S,false):=by
 by_cases h0:a<0
 .have:eA tn (f+1) a=[]:=by unfold eA;rw[ao h0]
  rw[this];simp+decide only[bz,JH,VB,lk,aB,↓reduceIte,Nat.reduceBEq,Nat.reduceAdd,HQ,Hj,LG,dV h0]
 .obtain⟨i,rfl⟩:∃i:Nat,a=i:=⟨a.toNat,by omega⟩;have hi:i<tn.length:=by omega
  obtain⟨c0,p,c2,l,e,p1,p2,l1,l2⟩:=K.2 _ hi;have Y:jc tn i=p:=by simp only[jc,e]
  have M:oG tn i=l:=by simp only[oG,e]
  have hv:eA tn (f+1) (i:Int)=eA tn f p++l:=by rw[show eA tn (f+1) (i:Int)=if(i:Int)<0 then[]else eA tn f (jc tn (i:Int).toNat)++oG tn (i:Int).toNat from rfl,aj h0,Eo,Y,M]
  have A:=A (by omega);rw[Eo,Y]at A;have Z:=ahu K (f:=f) (a:=p) (by omega);have L:=ah9 K (f:=f) (a:=p) (by omega);have N:∀st,iG st 4 (.sl [] (some 4)) (.sl (eA tn f p) (some 4))=some (.sl (eA tn f p) (some 4)):=λ st=>by rw[lZ (by simp only[dG];omega) L,jS]
  have u:∀st,iG st 4 (.sl (eA tn f p) (some 4)) (.sl l none)=some (.sl (eA tn f p++l) (some 4)):=λ st=>lZ (by omega) l2
  rw[hv];have G:mM 4 (List.replicate 0 [ae.sc (.str []),.sc (.int .i64 0),.sc (.int .i64 0),.sl [] none]) []=some []:=rfl;have h:cy af 136=true:=by kernel_rfl
  have q:∃y,uf af gl Z7 24 Hk G6 [(1,eI i),(2,.ptr S.length 2 0),(6,eB false)] (aH [(2,[.sl tn none,.sl te none])] S)=some (y,(aH [(2,[.sl tn none,.sl te none])] S))/\lk y 4=some (.sl (eA tn f p++l) (some 4)):=by
   have hx:∃x,A9 G6 (mF af gl Z7 24 G6 (aH [(2,[.sl tn none,.sl te none])] S) Hk 0 ⟨[],[],false,false,[]⟩ [(1,eI i),(2,.ptr S.length 2 0),(6,eB false)] [(1,eI i),(2,.ptr S.length 2 0),(6,eB false)] (aH [(2,[.sl tn none,.sl te none])] S))=some x/\(x.2=(aH [(2,[.sl tn none,.sl te none])] S)/\lk x.1 4=some (.sl (eA tn f p++l) (some 4))):=by simp+decide only[VB,lk,aB,↓reduceIte,Nat.reduceBEq,Nat.reduceAdd,Hk,aY e,aI h,A,N,u,G,avz,ap5,axo,aen,Zb,ZC,Wp,ZZ,afR,acQ,abo,abP,adg,ae7,aaX,aed,aap,XX,aeg,aeX,adP,VF,aw6,aab,adC,acF,Yq,aav,lz,exists_eq_left']
   obtain⟨⟨y,J⟩,x1,D,x3⟩:=hx;have D:J=_:=D;subst D;exact⟨y,YG x1,x3⟩
  obtain⟨y,r1,r2⟩:=q;show mW _ (aJ af gl Z7 24 (.seq (.ak HQ _) (.seq (.seq (.ak Hj _) (.cond (.t 6) (.seq (.ak LG _) .ret) .skip)) (.seq (.dK Hk G6 _) .ret))) _ _)=_;rw[wg];have hA:aJ af gl Z7 24 (.ak HQ (some ([1,2],[2]))) [(0,.agg [.sl tn none,.sl te none]),(1,eI i)] (aH [] S)=some (.normal,[(1,eI i),(2,.ptr S.length 2 0)],(aH [(2,[.sl tn none,.sl te none])] S)):=by simp+decide only[VB,lk,aB,↓reduceIte,Nat.reduceBEq,Nat.reduceAdd,HQ]
  have hB:aJ af gl Z7 24 (.seq (.ak Hj (some ([1,2,6],[2]))) (.cond (.t 6) (.seq (.ak LG (some ([4],[]))) .ret) .skip)) [(1,eI i),(2,.ptr S.length 2 0)] (aH [(2,[.sl tn none,.sl te none])] S)=some (.normal,[(1,eI i),(2,.ptr S.length 2 0),(6,eB false)],(aH [(2,[.sl tn none,.sl te none])] S)):=by simp+decide only[VB,lk,aB,↓reduceIte,Nat.reduceBEq,Nat.reduceAdd,Hj,cX h0]
  refine(dc (λ z=>mW _ (mY _ z)) hA).trans ?_;rw[BX,wg];refine(dc (λ z=>mW _ (mY _ z)) hB).trans ?_;rw[BX,wg,Lf,r1];simp+decide only[VB,lk,aB,↓reduceIte,Nat.reduceBEq,Nat.reduceAdd,r2,JH]
end
end
end Go.Abs
