/- Calls by bodies; walks of small functions. -/
import Derived.Test.YtkhnencepibcpaaGreatB
import Derived.Test.YtkhnencepibcpaaGreatD
import Derived.Test.YtkhnencepibcpaaGreatF
import Derived.Test.YtkhnencepibcpaaGreatSh
import Derived.Test.YtkhnencepibcpaaGreatProg
import Derived.Tactics
import Derived.Tactics2
import Derived.WalkKit
import Derived.LoopN
import Derived.Carry
import Derived.Laws.IdiomRangeMap
import Derived.Handy
import Derived.Shelf.SlIterI.Collect
import Derived.KernelRfl
set_option linter.all false
set_option maxRecDepth 100000
open Array renaming replicate_succ->aqD,replicate_zero->aqy
open Bool renaming rec->vi,false->W,true->V
open Go renaming Calls->awV,Value->ye,World->ajO,callsIn_of_wp->aAQ,run_underlying->j2,undef->aaN,wp_loop_rounds->aAB
open Go.Lib renaming compact->aat
open Go.Proofs.AnyZI renaming ApAt->amD,apRec->alx
open Go.World renaming alloc->ap4,alloc_heap_new->agu,putObj_heap_other->an2
open List renaming append_toArray->arL,getElem?_eq_getElem->HF,length->amf,push_toArray->aub,range->vv,replicate->ef,size_toArray->atW,take_of_length_le->PN
open Nat renaming ble_eq_true_of_le->hP,reduceAdd->et,reduceSub->ay9
open Option renaming rec->DT,none->X,some->O
open Option.some renaming inj->aes,injEq->aly
open _root_ renaming Bool->mi,Int->U,List->B,Nat->R,Option->gw,rfl->Q,trivial->sp
namespace Go.Abs
noncomputable section
open Go Go.Proofs
variable{H' H0:aj}{Rqq:Ju}{S:gC}{T:aM}{a args cs xs:aF}{bef:oh}{aae d:bg}{es te:aP}{gl:bH}{i j k n off t u:R}{l:aK}{o:Op}{aag:dM}{p:Prop}{r:xe}{s:au}{v:ak}
section
open Go.RowKit
theorem Uf(w:ajO)(o:Obj):(w.alloc o).heap.size=w.heap.size+1:=by grind[ap4,Array.size_push]
theorem aBk(w:ajO)(o:Obj):(w.alloc o).heap[w.heap.size]? =O o:=by grind[ap4,Array.getElem?_push_size]
theorem agb(w:ajO)(A y u:Obj):(((w.alloc A).alloc y).alloc u).heap.size=w.heap.size+1+1+1:=by rw[Uf,Uf,Uf]
theorem ajk(w:ajO)(y u o3:Obj):(((w.alloc y).alloc u).alloc o3).heap[w.heap.size+1+1]? =O o3:=by grind[aBk,Uf]
theorem aFm(x0 x1 x2 x3 x4 x5 x6 x7 x9 wL ad ac ab aa JE H9 KF IA HG Iq HW Jc JI HD Z Y S P N M K J F D A y u:ye)(a:gw Addr)(c:R)(w:ajO):
 awV af 294 #[.agg #[x0,x1,x2,x3,x4,x5,x6,x7,.slice a 0 c,x9,wL,ad,ac,ab,aa,JE,H9,KF,IA,HG,Iq,HW,Jc,JI,HD,Z,Y,S,P,N,M,K,J,F,D,A,y,u]] w λ e w'=>∃o,e=.returned (.tuple #[.map (O (w.heap.size+1)),.int .i64 0])/\w'=(w.alloc o).alloc (.map #[] 0):=by
 have ae:=@run_makeMap af
 go_enter Tryz.func294,Tryz.ntmps294
 go_wp2
 refine aAB 1 ?_;rw[rounds_succ]
 go_wp2
 exact bodyPost_ret (results_tmp2 Q _ _ _) Q ⟨_,Q,Q⟩
def asr{dst:gw Tmp}{ty:TypeId}{pos:String}{after:Array Edge}{a:Act}{w:ajO}{K:Act->ajO->Prop}{Qqq:Exit->Act->ajO->Prop}{v:ye}(u:(Instr.loadAt 139 (a.eval (.tmp 13))).run af w=.ok v w)(h:K (a.put dst v) w):
 Oper.wp af {dst:=dst,op:=.load 139 (.tmp 13),type:=ty,pos:=pos,after:=after,guard:=X} a w K Qqq:=by
 have e:(execOp (a.eval) {dst:=dst,op:=.load 139 (.tmp 13),type:=ty,pos:=pos,after:=after,guard:=X}).run af w=.ok (Next.value v) w:=by have y:execOp (a.eval) {dst:=dst,op:=.load 139 (.tmp 13),type:=ty,pos:=pos,after:=after,guard:=X}=(do pure (Next.value (<-Instr.loadAt 139 (a.eval (.tmp 13))))):=rfl;rw[y];simp[u,Result.andThen]
 simp only[Oper.wp,e,Oper.upon];exact h
theorem aql(C:Array ye)(x0 x1 x2 x3 x4 x5 x6 x7 x9 wL x11 x12 x13 x14 JE H9 KF IA HG Iq HW Jc JI HD x25 x26 x27 x28 x29 x30 x31 x32 x33 x34 x35 x36 x37:ye)(a:gw Addr)(c:R)(l:Addr)(w:ajO)
 (hld:(Instr.loadAt 139 (.pointer (O l))).run Tryz.prog (w.alloc (.cells C 34))=.ok (.agg #[x0,x1,x2,x3,x4,x5,x6,x7,.slice a 0 c,x9,wL,x11,x12,x13,x14,JE,H9,KF,IA,HG,Iq,HW,Jc,JI,HD,x25,x26,x27,x28,x29,x30,x31,x32,x33,x34,x35,x36,x37]) (w.alloc (.cells C 34))):
 awV Tryz.prog 237 #[.agg C,.pointer (O l)] w λ e w'=>e=.returned (.int .i64 0)/\∃o1 o2 o3 o4,w'=(((w.alloc o1).alloc o2).alloc o3).alloc o4:=by
 have hld0:=hld;clear hld;revert hld0;generalize hV:(Value.agg #[x0,x1,x2,x3,x4,x5,x6,x7,.slice a 0 c,x9,wL,x11,x12,x13,x14,JE,H9,KF,IA,HG,Iq,HW,Jc,JI,HD,x25,x26,x27,x28,x29,x30,x31,x32,x33,x34,x35,x36,x37])=dX;intro hld0;have hcall:∀w,awV Tryz.prog 294 #[dX] w (λ e w'=>∃o,e=.returned (.tuple #[.map (O (w.heap.size+1)),.int .i64 0])/\w'=(w.alloc o).alloc (.map #[] 0)):=λ w=>by grind[aFm]
 clear hV;have hrg:∀o1 o2:Obj,(Instr.range 351 (.map (O (w.heap.size+1+1)))).run Tryz.prog (((w.alloc o1).alloc o2).alloc (.map #[] 0))=.ok (.pointer (O ⟨w.heap.size+1+1+1,0,X⟩)) ((((w.alloc o1).alloc o2).alloc (.map #[] 0)).alloc (.mapIter (O (w.heap.size+1+1)) 0 #[] 0)):=λ o1 o2=>by grind[run_range_map,Tryz.prog,Tryz.underlying351,ajk,agb]
 have hnx:∀(o1 o2:Obj) (ty:TypeId),(Instr.next (.pointer (O ⟨w.heap.size+1+1+1,0,X⟩)) W ty).run Tryz.prog ((((w.alloc o1).alloc o2).alloc (.map #[] 0)).alloc (.mapIter (O (w.heap.size+1+1)) 0 #[] 0))=.ok (.tuple #[.bool W]) ((((w.alloc o1).alloc o2).alloc (.map #[] 0)).alloc (.mapIter (O (w.heap.size+1+1)) 0 #[] 0)):=λ o1 o2 ty=>by have h:=run_next_map (P:=Tryz.prog) (((w.alloc o1).alloc o2).alloc (.map #[] 0)) ty (w.heap.size+1+1) 0 0 #[] #[] 0 (ajk _ _ _ _) (λ x hx=>by simp at hx) (aZ _);grind[agb,leftOf]
 go_enter Tryz.func237,Tryz.ntmps237
 iterate 21 go_step
 refine asr hld0 ?_
 go_wp2_with (go_at_call 294;refine(hcall _).mono ?_;rintro e w' ⟨o,rfl,rfl⟩)
 refine aAB 1 ?_;rw[rounds_succ]
 go_wp2
 go_ret
 exact⟨Q,_,_,_,_,Q⟩
end
section
variable{ng Bqq:R}{ρ:dO}
theorem aoa{c:au}{v:ye}(u:lenOf c=O 0)(h:bW ρ c v):∃a k,v=.slice a 0 k:=by
 cases c with
 |aq=>exact⟨X,0,h⟩
 |eY=>obtain⟨a,k,h⟩:=h;exact⟨O a,k,h⟩
 |slice x off n lim=>
  cases u;cases lim;.obtain⟨l,_,h⟩:=h;exact⟨_,_,h⟩
  rename_i k;obtain⟨l,_,h⟩:=h;exact⟨_,_,h⟩
 |_=>cases u
def aGn:Tryz.prog.info? 139=O Tryz.t139:=aH
theorem ah8:∀{cs:aF} {xs:jZ} {i:R} {c:au},dS ρ cs xs->cs[i]? =O c->∃x,xs[i]? =O x/\bW ρ c x
 |a::cs,xs,0,c,h,e=>by grind[ep]
 |a::cs,xs,i+1,c,h,e=>by obtain⟨y,u,rfl,h1,h2⟩:=ep.1 h;exact ah8 (i:=i) h2 (by simpa using e)
theorem aAz{u:jZ}(h:u.length=n):u=(vv n).map (λ i=>u.getD i aaN):=by apply sI;grind
theorem aEu{H:aj}{w:cG}{c:au}{ta:aF}{xs:jZ}(s:jU Bqq ng ρ H w)(D:aQ H.ah.get u off 38=O cs)(hc:cs[8]? =O c)(hl:lenOf c=O 0)(hx:dS ρ [.agg ta,.ptr u off] xs):
 awV af 237 ⟨xs⟩ w (λ e S=>∃x F,e=.returned x/\bW F (.int .i64 0) x/\cW Bqq ng H.ah.get H.ae H.ae ρ w H.ah.get H.aV.get F S):=by
 obtain⟨x0,ys,rfl,h0,h1⟩:=ep.1 hx;obtain⟨p,zs,rfl,Z,h2⟩:=ep.1 h1;obtain rfl:=pM.1 h2;have N:=Z;obtain⟨l,ab,rfl⟩:=Z;have hs:Tryz.t139.size=38:=rfl;have P:cr af H.ah.get 139 (.ptr u off)=O (.agg cs):=by simp only[cr,Tryz.underlying139,aGn,hs,D];rfl
 have J:cs.length=38:=by
  unfold aQ at D;split at D;.cases D
  split at D;.rename_i hb;have hb:=Hc hb;cases D;simp;omega
  cases D
 have more:∀os:Array Obj,∀w2:cG,w2.heap=w.heap++os->w2.os=w.os->w2.tape=w.tape->w2.output=w.output->cW Bqq ng H.ah.get H.ae H.ae ρ w H.ah.get H.aV.get ρ w2:=λ os w2 e1 e2 e3 e4=>(cW.refl s _ _).more e1 e2 e3 e4
 obtain⟨C,rfl,hC⟩:=(h0);obtain⟨r,M,A⟩:=acY (more #[.cells ⟨C⟩ 34] (w.alloc (.cells ⟨C⟩ 34)) (by grind[ap4,Array.append_singleton]) rfl rfl rfl).cA N P;obtain⟨y,rfl,Y⟩:=(M);obtain⟨x8,aa,K⟩:=ah8 Y hc;obtain⟨a,k,rfl⟩:=aoa hl K;have e8:y.getD 8 aaN=.slice a 0 k:=bP;have ev:=by have h:=aAz (by rw[pY Y,J]);have h2:(vv 38).map (λ i=>y.getD i aaN)=[(y.getD 0 aaN),(y.getD 1 aaN),(y.getD 2 aaN),(y.getD 3 aaN),(y.getD 4 aaN),(y.getD 5 aaN),(y.getD 6 aaN),(y.getD 7 aaN),(y.getD 8 aaN),(y.getD 9 aaN),(y.getD 10 aaN),(y.getD 11 aaN),(y.getD 12 aaN),(y.getD 13 aaN),(y.getD 14 aaN),(y.getD 15 aaN),(y.getD 16 aaN),(y.getD 17 aaN),(y.getD 18 aaN),(y.getD 19 aaN),(y.getD 20 aaN),(y.getD 21 aaN),(y.getD 22 aaN),(y.getD 23 aaN),(y.getD 24 aaN),(y.getD 25 aaN),(y.getD 26 aaN),(y.getD 27 aaN),(y.getD 28 aaN),(y.getD 29 aaN),(y.getD 30 aaN),(y.getD 31 aaN),(y.getD 32 aaN),(y.getD 33 aaN),(y.getD 34 aaN),(y.getD 35 aaN),(y.getD 36 aaN),(y.getD 37 aaN)]:=rfl;rw[h2,e8]at h;exact h
 rw[ev]at A;refine(aql ⟨C⟩ _ _ _ _ _ _ _ _ (y.getD 9 aaN) _ _ _ _ _ _ _ _ _ _ _ _ _ _ _ _ _ _ _ _ _ _ _ _ _ _ _ _ a k _ w A).mono ?_
 rintro e S ⟨rfl,o1,o2,o3,o4,rfl⟩
 refine⟨_,ρ,rfl,rfl,more #[o1,o2,o3,o4] _ ?_ rfl rfl rfl⟩;rfl
end
section
open Go.Maps Go.RowKit Go.Shelf Go.Sort
def qM:Ren:=⟨λ|8=>381|11=>389|x=>x,λ|0=>0|24=>50|26=>3|28=>411|33=>169|x=>x,λ x=>x⟩
set_option maxRecDepth 100000 in
def We:SlLaysZI.n11 af qM:={
 mixed:=by kernel_rfl
 f11:=⟨Tryz.f389.name,by decide,Tryz.func389.trans (fP some (by kernel_rfl))⟩
 t0:=Tryz.underlying0
 a0:=Tryz.isAgg0
 z0:=Tryz.sizeOf0
 v0:=Tryz.zeroValue0
 t24:=Tryz.underlying50
 a24:=Tryz.isAgg50
 z24:=Tryz.sizeOf50
 v24:=Tryz.zeroValue50
 t26:=Tryz.underlying3
 a26:=Tryz.isAgg3
 z26:=Tryz.sizeOf3
 v26:=Tryz.zeroValue3
 t28:=Tryz.underlying411
 a28:=Tryz.isAgg411
 z28:=Tryz.sizeOf411
 v28:=Tryz.zeroValue411
 i26:=by kernel_rfl}
set_option maxRecDepth 100000 in
def aJM:SlLaysZI.n8 af qM:={We with f8:=⟨Tryz.f381.name,by decide,Tryz.func381.trans (fP O (by kernel_rfl))⟩}
structure Pp (w:World) (s:ye) (zs:B U):Prop where sl:∃a c,s=.slice a zs.length c/\∀(j:R) x,zs[j]? =some x->∃b o,a=some ⟨b,o,none⟩/\b<w.heap.size/\w.cell? ⟨b,o+j,none⟩=some (.int .i64 x)
def af9:ye->R
 |.int _ k=>k.toNat
 |_=>0
set_option maxRecDepth 100000 in
set_option maxHeartbeats 1000000 in
theorem az2(n:R)(hn:1<=n)(w0:ajO)(Bm off:R)(hBm:Bm<w0.heap.size)(s:ye)(zs:B U)(hs:w0.cell? ⟨Bm,off,X⟩=O s)(hz:Pp w0 s zs)(hN:zs.length<=1000)
 (fn:FuncId) (sv:ye) (Bs l D:R) (hBl:Bs≠l) (hDl:D≠l) (hDB:D≠Bs) (h0B:w0.heap.size<=Bs) (h0l:w0.heap.size<=l) (bB:ajO) (h0:amD qM w0 fn sv Bs l D [] bB):
 CallsIn Fence.wide n af 382 #[.func (.yield l) #[] #[],.pointer (O ⟨Bm,off,X⟩)] bB λ e W'=>(∃v,e=.returned v)/\amD qM w0 fn sv Bs l D zs W':=by
 obtain⟨a,c,rfl,hc⟩:=hz.sl;have hcell:∀{bB:ajO},Below w0.heap.size w0 bB->bB.cell? ⟨Bm,off,X⟩=O (.slice a zs.length c):=λ hW=>(hW.cell (p:=⟨Bm,off,X⟩) hBm).trans hs
 have hs0:=hcell h0.below;refine aAQ Tryz.func382 Q sp ?_ Q;simp only[Tryz.ntmps382,atW,rO,tP,et,ay9,aqD,aqy,aub,arL,mG,AX]
 gi_wp2
 gi_loopw [7] (λ i wr=>∃k:R,k<=zs.length/\i=.int .i64 k/\amD qM w0 fn sv Bs l D (zs.take k) wr) (λ i _=>zs.length-af9 i)
 case atStart=>grind
 case round=>
  obtain⟨k,hk,rfl,hA⟩:=hrel;by_cases hlt:k<zs.length
  .have hd:decide ((k:U)<(zs.length:U))=true:=jR (by omega);obtain⟨b,o,rfl,hb,hx⟩:=hc k _ (eg hlt);have hxc:=(hA.below.cell (p:=⟨b,o+k,X⟩) hb).trans hx;have hlen:(zs.take k).length=k:=by rw[KL];omega
   obtain⟨fn',tmps,assign,body,hy,hR⟩:=AnyZI.apYield (P:=af) (ρ:=qM) We Fence.wide (n- 1) w0 fn sp sv Bs l D hBl hDl hDB h0B h0l 1000 (by unfold maxLen;omega) (by omega) (zs.take k) zs[k] _ hA (by omega)
   gi_wp2
   refine hR.mono ?_
   rintro e W3 ⟨rfl,hA3,_⟩
   gi_wp2
   grind[List.take_add_one,HF,af9]
  have hd:decide ((k:U)<(zs.length:U))=false:=my (by omega)
  gi_wp2
  go_end0
  grind[PN]
end
section
open Go.Maps Go.RowKit Go.Shelf Go.Sort
def aru:∀args w,(callFunc 382 args).run af w=.ok (.enter 382 args) w:=enters_of (c:=match Tryz.f382.body with|O c=>c|X=>.skip) Tryz.func382 (by decide) Q
set_option maxRecDepth 100000 in
set_option maxHeartbeats 2000000 in
theorem aDG(n:R)(hn:2<=n)(w:ajO)(Bm off:R)(ai:Bm<w.heap.size)(s:ye)(N:B U)(hs:w.cell? ⟨Bm,off,X⟩=O s)(hz:Pp w s N)(hN:N.length<=1000):
 CallsIn Fence.wide n af 389 #[.slice X 0 0,.func (.func 382) #[] #[.pointer (O ⟨Bm,off,X⟩)]] w λ e w'=>∃(v:ye),e=.returned v/\w'.ownsRow w.heap.size 3 1 v N.length (N.map encZ)/\(v=.slice X 0 0↔N=[])/\Below w.heap.size w w':=by
 have h1:1<=n:=by omega
 have L:=We;have mixed:=L.mixed;have t0:=L.t0;have a0:=L.a0;have z0:=L.z0;have v0:=L.v0;have t24:=L.t24;have a24:=L.a24;have z24:=L.z24;have v24:=L.v24;have t26:=L.t26;have a26:=L.a26;have z26:=L.z26;have v26:=L.v26;have t28:=L.t28;have a28:=L.a28;have z28:=L.z28;have v28:=L.v28;have ap:qM.t 24≠qM.t 26:=λ e=>by grind
 have u0:=j2 L.t0;have an:=j2 L.t24;have am:=j2 L.t26;have al:=j2 L.t28;generalize Z:(#[.pointer (O ⟨Bm,off,X⟩)]:Array ye)=lb;obtain⟨_,_,FG⟩:=L.f11;refine callsIn_of_wp_marks FG Q sp ?_ Q;simp only[SlBodyZ.n11_ntmps qM,atW,rO,tP,et,ay9,aqD,aqy,aub,arL,mG,AX]
 gi_wp2
 refine wpIn_rangeFunc ?_;intro fn aq;obtain⟨W0,M⟩:∃W0,w.alloc (.cells #[.slice X 0 0] (qM.t 24))=W0:=⟨_,Q⟩;have ag:W0.heap.size=w.heap.size+1:=by rw[<-M];simp
 have ae:W0.heap[w.heap.size]? =O (.cells #[.slice X 0 0] (qM.t 24) (0,0)):=by grind[agu]
 have F:Below w.heap.size w W0:=by rw[<-M];exact(Below.refl _ w).alloc (aZ _) _
 rw[M];obtain⟨W1,J⟩:∃W1,(W0.alloc (.deferred (O []))).alloc (.loop (alx qM fn (.func (.func 382) #[] lb) w.heap.size W0.heap.size .ready X))=W1:=⟨_,Q⟩;have S:∀k,k<W0.heap.size->W1.heap[k]? =W0.heap[k]? :=λ k hk=>by grind[Below.heap_alloc,trans]
 have ah:Below w.heap.size w W1:=by rw[<-J];exact(F.alloc F.size _).alloc (by have:=F.size;simp;omega) _
 have ao:W1.heap.size=W0.heap.size+2:=by rw[<-J];simp
 have hM:amD qM w fn (.func (.func 382) #[] lb) w.heap.size (W0.heap.size+1) W0.heap.size [] W1:=
  ⟨⟨_,(S w.heap.size (by omega)).trans ae,⟨Q,.inl ⟨Q,Q⟩⟩,by simp⟩,
   by grind[agu,alx,qM,World.size_alloc],
   by grind[Below.heap_alloc,trans,agu],ah⟩
 refine⟨W0.heap.size+1,[{target:=.collected W0.heap.size,args:= #[]}],W1,{target:=.fn (.func 382) lb,args:= #[.func (.yield (W0.heap.size+1)) #[] #[]]},W1,382,#[.func (.yield (W0.heap.size+1)) #[] #[]]++lb,W1,?_,?_,?_,?_,λ _=>h1,?_⟩
 .rw[<-J];exact run_enterLoop_outer _ _ _ _ _
 .simp[resolve,go_sem]
 .intro f' av;trivial
 .simp[invoke,go_sem,aru]
 .have hv:=az2 (n- 1) (by omega) w Bm off ai s N hs hz hN fn (.func (.func 382) #[] lb) w.heap.size (W0.heap.size+1) W0.heap.size (by omega) (by omega) (by omega) (aZ _) (by omega) W1 hM;rw[<-Z];refine hv.mono ?_;rw[Z]
  rintro e W2 ⟨⟨v0,rfl⟩,h2⟩
  obtain⟨v,hv,A,Y⟩:=h2.box;have D:=run_endLoop (P:=af) h2.L (by simp[alx]);obtain⟨W3,y⟩:∃W3,W2.putObj (W0.heap.size+1) (.loop {alx qM fn (.func (.func 382) #[] lb) w.heap.size W0.heap.size .ready X with state:=.exhausted})=W3:=⟨_,Q⟩;rw[y]at D;have aa:W2.grownBy W3 (O (W0.heap.size+1)):=by rw[<-y];exact grownBy_putObj_a _ _ _
  have ad:W3.heap[w.heap.size]? =O (.cells #[v] (qM.t 24) (0,0)):=by grind[an2,trans]
  have ac:W3.heap[W0.heap.size]? =O (.deferred (O [])):=by rw[<-y];exact(an2 (by omega)).trans h2.K
  have u:=A.kept aa (ownsRow_ne_a A h2.L (λ cur e=>by grind[Obj.cells.inj]));have ab:Below w.heap.size w W3:=h2.below.grown aa h2.below.size (λ k e=>by cases e;omega);obtain⟨aw,ar⟩:=cell_of_box_a ad;clear y;refine⟨X,W3,D,?_⟩
  gi_wp2
  rw[<-ag];refine⟨by simp,.inl ⟨_,_,Q,run_takeDeferred ac,?_⟩⟩;exact⟨_,results_tmp Q _ _ _,v,Q,u.kept (grownBy_putObj_a _ _ _) (ownsRow_ne_a u ac (λ cur e=>by grind[Obj.cells.inj])),Y,ab.grown (grownBy_putObj_a _ _ _) ab.size (λ k e=>by cases e;omega)⟩
end
section
open Go.Maps Go.RowKit Go.Shelf Go.Sort
variable{xs:jZ}{zs:aK}
set_option maxRecDepth 100000 in
set_option maxHeartbeats 1000000 in
def aHb(w:cG)(Bm off:R)(hBm:Bm<w.heap.size)(s:ye)(zs:aK)(hs:w.cell? ⟨Bm,off,X⟩=O s)(hz:Pp w s zs)(hN:zs.length<=1000):
 awV af 381 #[.func (.func 382) #[] #[.pointer (O ⟨Bm,off,X⟩)]] w λ e w'=>∃(v:ye),e=.returned v/\w'.ownsRow w.heap.size 3 1 v zs.length (zs.map encZ)/\(v=.slice X 0 0↔zs=[])/\Below w.heap.size w w':=by
 refine(callsIn_wide (n:=3)).1 ?_;have h11:Fence.wide.fn (qM.f 11):=trivial;have L:=aJM;have e11:∀args w,(callFunc (qM.f 11) args).run af w=.ok _ w:=L.f11.enters Q;have t24:=L.t24;have a24:=L.a24;have z24:=L.z24;have v24:=L.v24;have t26:=L.t26;have a26:=L.a26;have z26:=L.z26;have v26:=L.v26;have t28:=L.t28;have a28:=L.a28;have z28:=L.z28;have v28:=L.v28;obtain⟨_,_,FG⟩:=L.f8;refine aAQ FG Q sp ?_ Q
 gi_wp2_with (gi_at_fn (qM.f 11);refine(aDG (3- 1) aa w Bm off hBm s zs hs hz hN).mono ?_;rintro e w' ⟨v,rfl,hrow,hnil,hb⟩)
 go_ret
 exact⟨v,Q,hrow,hnil,hb⟩
variable{ng Bqq:R}{ρ:dO}
theorem aBp{y:fE}{aI:vd}{w w':cG}(s:gP Bqq ng ρ y aI w.heap){id:R}(ad:ρ id=X)
 (S:∀v r,y v=O r->v≠id/\r.aI≠id) (cells:aF) (sz cap g:R) {C:kA} {e:bj} (hC:C.size=cap) (M:cells.length<=cap)
 (Z:∀(i:R) (c:au),cells[i]? =O c->∃x,C[i]? =O x/\bW ρ c x)
 (hg:w.heap.size<=g) (hw:w'.heap[g]? =O (.cells C e (0,0))) (J:Below w.heap.size w w'):
 cW Bqq ng y id (id+1) ρ w (iH y id (O ⟨cells,id,0,W,W,sz⟩)) (iH aI id (O [id])) (iH ρ id (O ⟨g,0,cap,sz⟩)) w':=by
 have A:sS ρ (iH ρ id (O ⟨g,0,cap,sz⟩)):=λ v l h=>by grind[gO]
 refine⟨?_,λ v K=>gO _ aa _,J.os,J.tape,J.output,J.size,λ b P _=>J.block b P,λ v r l K F hl=>?_,λ v r K F=>?_⟩
 .refine((s.mono A).kept J.size J.block).NO id _ _ (iW _ _ _) hw ?_ ?_ ?_;.refine⟨M,by simp[hC],aw,Q,λ _=>fI s.base hg,λ _=>rfl,λ i c hc=>?_⟩;grind[CF]
  .intro u ru lu hu N ac ab;obtain⟨l,D,t,fz,hl,ae⟩:=(s.mono A).row u ru N;grind
  intro v Y mem K F hm;by_cases e1:id=v;.grind[iW]
  rw[gO _ e1]at K;rw[gO _ (Es (S v Y K).2)]at hm;exact s.aI v Y mem K F hm
 .grind[iW,gO]
 .grind[iW,gO]
def azp(h:dS ρ (gZ zs) xs):xs=zs.map encZ:=by rw[XN h];rfl
def aj6{H:aj}{w:cG}(s:jU Bqq ng ρ H w)(h:aQ H.ah.get u off n=O cs):∃l xs,ρ u=O l/\l.cU<w.heap.size/\dS ρ cs xs/\∀j x,xs[j]? =O x->w.cell? ⟨l.cU,l.off+off+j,X⟩=O x:=by obtain⟨l,C,e,fz,xs,K,F,D,y,J,A⟩:=Il s h;refine⟨l,xs,K,RG F,y,λ j x hx=>?_⟩;have h2:=A j x hx;rw[<-aaC F j]at h2;cases j<;>exact h2
theorem afk{H:aj}{w:cG}(y:jU Bqq ng ρ H w)(wf:WF H)(M:zs≠[]->ll ρ H.ae (H.ae+1))(hr:aQ H.ah.get u off 1=O [s])(hc:er H.ah.get 1 n s=O (gZ zs))(hn:lenOf s=O n)(hl:zs.length<=1000)(hx:dS ρ [.func 382 [] [.ptr u off]] xs):
 awV af 381 ⟨xs⟩ w (λ e w'=>∃v,e=.returned v/\((zs=[]/\v=.slice none 0 0/\cW Bqq ng H.ah.get H.ae H.ae ρ w H.ah.get H.aV.get ρ w')\/(zs≠[]/\∃P,bW P (.slice H.ae 0 zs.length none) v/\cW Bqq ng H.ah.get H.ae (H.ae+1) ρ w (alloc H (gZ zs) W 1).ah.get (alloc H (gZ zs) W 1).aV.get P w'))):=by
 obtain⟨x0,ys,rfl,h0,h1⟩:=ep.1 hx;obtain rfl:=pM.1 h1;obtain⟨fs,cp,rfl,hf,ax⟩:=(h0);obtain rfl:=pM.1 hf;obtain⟨p,aA,rfl,hp,h2⟩:=ep.1 ax;obtain rfl:=pM.1 h2;obtain⟨l,ap,rfl⟩:=(hp);obtain⟨l',ws,J,al,hw,ac⟩:=aj6 y hr;rw[ap]at J;cases J;obtain⟨sv,aB,rfl,Z,am⟩:=ep.1 hw;obtain rfl:=pM.1 am;have K:(gZ zs).length=zs.length:=by simp[gZ]
 have S:zs.length=n/\(n=0\/∃v o lim,s=.slice v o n lim/\aQ H.ah.get v o (n*1)=O (gZ zs)):=by
  cases s with
  |slice v o m lim=>
   cases hn;grind[er,hP,aQ,iT,amf,aes]
  |aq=>
   cases hn;grind[er,amf,aes]
  |eY=>
   cases hn;grind[er,amf,aes]
  |_=>cases hn
 obtain⟨S,N⟩:=S
 have ab:Pp w sv zs:=by
  refine⟨?_⟩;by_cases A:n=0;.grind[aoa,List.length_eq_zero_iff]
  obtain⟨v,o,lim,rfl,an⟩:=N.resolve_left A;obtain⟨l2,es,J,aE,he,aD⟩:=aj6 y an;have he:=azp he
  have aC:∃c,sv=.slice (O ⟨l2.cU,l2.off+o,none⟩) n c:=by
   cases lim;.obtain⟨l3,q1,q2⟩:=Z;grind
   rename_i k;obtain⟨l3,q1,q2⟩:=Z;grind
  grind
 refine(aHb w l.cU (l.off+off) al sv zs (ac 0 sv rfl) ab hl).mono ?_
 rintro e w' ⟨v,rfl,⟨az,aa⟩,D,F⟩
 refine⟨v,rfl,?_⟩;by_cases A:zs=[];.refine .inl ⟨A,D.2 A,?_⟩;have c0:cW Bqq ng H.ah.get H.ae H.ae ρ w H.ah.get H.aV.get ρ w:=cW.refl y _ _;exact⟨y.kept F.size F.block,λ v _=>rfl,F.os,F.tape,F.output,F.size,λ b ao _=>F.block b ao,c0.tl,c0.vq⟩
 .refine .inr ⟨A,?_⟩;rcases aa with⟨rfl,h0⟩|⟨g,cap,cur,rfl,hg,av,ai,_,ad,Y⟩
  .exact absurd (D.1 rfl) A
  rw[OF]at ad Y;have ar:ρ H.ae=none:=M A H.ae (aZ _) (kF _);refine⟨iH ρ H.ae (O ⟨g,0,cap,1⟩),⟨_,iW _ _ _,aw⟩,?_⟩;have ag:=aBp (e:=3) y ar (λ v r hv=>⟨Oo (wf v r hv).1,Oo (wf v r hv).2⟩) (gZ zs) 1 cap g ad (by simpa[gZ]using ai) (λ i c hc=>?_) hg av F;.show cW Bqq ng H.ah.get H.ae (H.ae+1) ρ w (H.ah.set H.ae _).get (H.aV.set H.ae _).get _ _;rw[yF,yF];exact ag
  have K:i<zs.length:=by grind[List.getElem?_eq_some_iff,gZ]
  have h1:(cur.toList.take zs.length)[i]? =(zs.map encZ)[i]? :=by rw[Y]
  rw[wT,aY K,mu,eg K]at h1;have ay:c=.int .i64 zs[i]:=by grind[gZ,HF,aes]
  subst ay;exact⟨encZ zs[i],by simpa using h1,rfl⟩
end
section
variable{dr:mi}{objs0:kH}
variable{P:aA}{ng n:R}
def nH(c d:bg):Prop:=∀f a H r,c f a H=O r->d f a H=O r
theorem nH.trans{a b c:bg}(h:nH a b)(k:nH b c):nH a c:=λ _ _ _ _ e=>k _ _ _ _ (h _ _ _ _ e)
theorem aJF{c:bg}(h:nH c d){f:ck}{H:aj}(e:eL P c f a H=O r):eL P d f a H=O r:=by unfold eL at e⊢;grind[nH]
theorem azT{c:bg}(h:nH c d){x:cR}{l:sL}{H:aj}(e:ud P c H x l=O r):ud P d H x l=O r:=by unfold ud at e⊢;grind[aJF]
def aIb{c:bg}(h:nH c d){H:aj}(e:uV P ng c T H o=O r):uV P ng d T H o=O r:=by
 unfold uV at e⊢;split at e;.exact e
 .unfold yT at e⊢;split at e;.exact azT h e
  .exact e
  .exact e
  cases e
 cases e
def Jm{c:bg}(h:nH c d){H:aj}(e:bR P ng c T H o=O r):bR P ng d T H o=O r:=by
 unfold bR at e⊢;split at e;.exact e
 .exact e
 .exact e
 exact aIb h e
def PZ{c:bg}(h:nH c d):∀{l:dM} {T:aM} {H:aj} {r:aM×aj},gv P ng c n aag l T H=O r->gv P ng d n aag l T H=O r
 |[],_,_,_,e=>e
 |o::l,T,H,r,e=>by
  have e:(vi _ _ _)=O r:=e;show(vi _ _ _)=O r;cases y:cn aag T o;.rw[y]at e;exact PZ h e
  rw[y]at e;cases u:bR P ng c T H _;.rw[u]at e;cases e
  rename_i q;rw[u]at e;exact(Jm h u)▸PZ h e
def QB{c:bg}(h:nH c d):∀{l:dM} {i:R} {S:jf} {T:aM} {H:aj} {r:Jg},kx P ng c n aag bef l i S T H=O r->kx P ng d n aag bef l i S T H=O r
 |[],_,_,_,_,_,e=>e
 |o::l,i,S,T,H,r,e=>by
  have e:(vi _ _ _)=O r:=e;show(vi _ _ _)=O r;cases y:cn aag T o;.rw[y]at e;exact QB h e
  rw[y]at e;cases u:bR P ng c T H _;.rw[u]at e;cases e
  rename_i q;rw[u]at e;rw[Jm h u];have e:(DT X _ _)=O r:=e;show(DT X _ _)=O r;cases A:jt _ i T _ S q;.rw[A]at e;cases e
  rename_i D;rw[A]at e;exact QB h e
def acU{c:bg}(h:nH c d):∀{l:dM} {i:R} {S:jf} {T:aM} {H:aj} {r:Jg},nV P ng c n objs0 aag bef l i S T H=O r->nV P ng d n objs0 aag bef l i S T H=O r
 |[],i,S,T,H,r,e=>e
 |o::l,i,S,T,H,r,e=>by
  unfold nV at e⊢;split at e;.cases e
  split at e;.cases e
  rename_i q u;simp[Jm h u];split at e;.cases e
  first
  |exact acU h e
def atS{c:bg}(h:nH c d){aag:dV}{H:aj}{r:aM×aj}(e:kK P ng c n aag T H dr=O r):kK P ng d n aag T H dr=O r:=by
 cases dr;.exact PZ h e
 cases y:tm aag
 .rw[N3 y]at e⊢;cases u:kx P ng c n _ _ _ 0 _ T H;.rw[u]at e;cases e
  rename_i q;rw[QB h u,<-u];exact e
 rw[MT y]at e⊢;cases u:nV P ng c n _ _ _ _ 0 _ T H;.rw[u]at e;cases e
 rename_i q;rw[acU h u,<-u];exact e
theorem HV{c:bg}(h:nH c d):∀(m:R) (b:Code) (T:aM) (H:aj) (r:Jh),dE P ng c n m b T H=O r->dE P ng d n m b T H=O r:=by
 intro m;induction m with
 |zero=>intro b T H r h;cases h
 |succ m A=>
  intro b T H r e;cases b with
  |seq x y=>
   have e:andThen _ (dE P ng c n m x T H)=O r:=e;show andThen _ (dE P ng d n m x T H)=O r;cases u:dE P ng c n m x T H;.rw[u]at e;cases e
   rename_i s;rw[u]at e;rw[A x T H s u];obtain⟨q,F,J⟩:=s;cases q with
   |normal=>exact A y F J r e
   |exit id=>exact e
   |ret=>exact e
  |cond x a b=>
   have e:oL (dE P ng c n m a T H) (dE P ng c n m b T H) _=O r:=e;show oL (dE P ng d n m a T H) (dE P ng d n m b T H) _=O r;unfold oL at e⊢;grind
  |block id a=>
   have e:nN id (dE P ng c n m a T H)=O r:=e;show nN id (dE P ng d n m a T H)=O r;cases u:dE P ng c n m a T H;.rw[u]at e;cases e
   rename_i s;rw[A a T H s u,<-u];exact e
  |loop a=>
   have e:andThen _ (dE P ng c n m a T H)=O r:=e;show andThen _ (dE P ng d n m a T H)=O r;cases u:dE P ng c n m a T H;.rw[u]at e;cases e
   rename_i s;rw[u]at e;rw[A a T H s u];obtain⟨q,F,J⟩:=s;cases q with
   |normal=>exact A _ F J r e
   |exit id=>exact e
   |ret=>exact e
  |region id aag dr=>
   have e:rG _=O r:=e;show rG _=O r;cases D:kK P ng c n aag T H dr;.rw[D]at e;cases e
   rename_i q;rw[atS h D,<-D];exact e
  |skip=>exact e
  |exit id=>exact e
  |ret=>exact e
  |_=>cases e
theorem aDy{c:bg}(h:nH c d){f:ck}{H:aj}(e:fp P ng c f a H r):fp P ng d f a H r:=by obtain⟨fn,b,m,q,T,l,h1,h2,y,u⟩:=e;exact⟨fn,b,m,q,T,l,h1,h2,HV h _ _ _ _ _ y,u⟩
structure Ag (c:R->bg) (L:bg):Prop where
 up:∀k,nH (c k) (c (k+1))
 lim:∀f a H r,L f a H=some r->∃k,c k f a H=some r
variable{c:R->bg}{L:bg}
def Ag.le(h:Ag c L)(u:i<=j):nH (c i) (c j):=by
 obtain⟨d,rfl⟩:=Oy u;induction d with
 |zero=>exact λ _ _ _ _ e=>e
 |succ d y=>exact(y aa).trans (h.up _)
def adu(h:Ag c L){H:aj}(e:bR P ng L T H o=O r):∃k,bR P ng (c k) T H o=O r:=by
 unfold bR at e⊢;split at e;.exact⟨0,e⟩
 .exact⟨0,e⟩
 .exact⟨0,e⟩
 unfold uV at e⊢;split at e;.exact⟨0,e⟩
 .unfold yT at e⊢;split at e
  .unfold ud at e⊢;split at e<;>try cases e
   unfold eL at e⊢;split at e
   .split at e;.obtain⟨k⟩:=h.lim _ _ _ _ e;refine⟨k,?_⟩;simp_all
    cases e
   cases e
  .exact⟨0,e⟩
  .exact⟨0,e⟩
  cases e
 cases e
def aaU(h:Ag c L):∀{l:dM} {T:aM} {H:aj} {r:aM×aj},gv P ng L n aag l T H=O r->∃k,gv P ng (c k) n aag l T H=O r
 |[],_,_,_,e=>⟨0,e⟩
 |o::l,T,H,r,e=>by
  have e:(vi _ _ _)=O r:=e;show∃k,(vi _ _ _)=O r;cases D:cn aag T o;.rw[D]at e;exact aaU h e
  rw[D]at e;cases A:bR P ng L T H _;.rw[A]at e;cases e
  rename_i q;rw[A]at e;obtain⟨y,h1⟩:=adu h A;obtain⟨u,h2⟩:=aaU h e;exact⟨max y u,(Jm (h.le (wU y u)) h1)▸PZ (h.le (uK y u)) h2⟩
def Zn(h:Ag c L):∀{l:dM} {i:R} {S:jf} {T:aM} {H:aj} {r:Jg},kx P ng L n aag bef l i S T H=O r->∃k,kx P ng (c k) n aag bef l i S T H=O r
 |[],_,_,_,_,_,e=>⟨0,e⟩
 |o::l,i,S,T,H,r,e=>by
  have e:(vi _ _ _)=O r:=e;show∃k,(vi _ _ _)=O r;cases F:cn aag T o;.rw[F]at e;exact Zn h e
  rw[F]at e;cases D:bR P ng L T H _;.rw[D]at e;cases e
  rename_i q;rw[D]at e;obtain⟨y,h1⟩:=adu h D;have e:(DT X _ _)=O r:=e;cases A:jt _ i T _ S q;.rw[A]at e;cases e
  rename_i J;rw[A]at e;obtain⟨u,h2⟩:=Zn h e;refine⟨max y u,?_⟩;rw[Jm (h.le (wU y u)) h1];show(DT X _ _)=O r;exact A▸QB (h.le (uK y u)) h2
def aka(h:Ag c L):∀{l:dM} {i:R} {S:jf} {T:aM} {H:aj} {r:Jg},nV P ng L n objs0 aag bef l i S T H=O r->∃k,nV P ng (c k) n objs0 aag bef l i S T H=O r
 |[],i,S,T,H,r,e=>⟨0,e⟩
 |o::l,i,S,T,H,r,e=>by
  unfold nV at e;split at e<;>try cases e
  rename_i A;split at e<;>try cases e
  rename_i q F;obtain⟨y,h1⟩:=adu h F;split at e;.cases e
  rename_i J D;obtain⟨u,h2⟩:=aka h e;refine⟨max y u,?_⟩;unfold nV;rw[A];simp[Jm (h.le (wU y u)) h1,D];exact acU (h.le (uK y u)) h2
def aEv(h:Ag c L){aag:dV}{H:aj}{r:aM×aj}(e:kK P ng L n aag T H dr=O r):∃k,kK P ng (c k) n aag T H dr=O r:=by
 cases dr;.exact aaU h e
 cases u:tm aag
 .rw[N3 u]at e;cases y:kx P ng L n _ _ _ 0 _ T H;.rw[y]at e;cases e
  rename_i q;obtain⟨k,A⟩:=Zn h y;exact⟨k,by rw[N3 u,A,<-y];exact e⟩
 rw[MT u]at e;cases y:nV P ng L n _ _ _ _ 0 _ T H;.rw[y]at e;cases e
 rename_i q;obtain⟨k,A⟩:=aka h y;exact⟨k,by rw[MT u,A,<-y];exact e⟩
def au1(h:Ag c L):∀(m:R) (b:Code) (T:aM) (H:aj) (r:Jh),dE P ng L n m b T H=O r->∃k,dE P ng (c k) n m b T H=O r:=by
 intro m;induction m with
 |zero=>intro b T H r h;cases h
 |succ m F=>
  intro b T H r e;cases b with
  |seq x y=>
   have e:andThen _ (dE P ng L n m x T H)=O r:=e;show∃k,andThen _ (dE P ng _ n m x T H)=O r;cases A:dE P ng L n m x T H;.rw[A]at e;cases e
   rename_i s;rw[A]at e;obtain⟨u,h1⟩:=F x T H s A;obtain⟨q,M,N⟩:=s;cases q with
   |normal=>
    obtain⟨D,h2⟩:=F y M N r e;exact⟨max u D,(HV (h.le (wU u D)) _ _ _ _ _ h1)▸HV (h.le (uK u D)) _ _ _ _ _ h2⟩
   |exit id=>exact⟨u,h1▸e⟩
   |ret=>exact⟨u,h1▸e⟩
  |cond x a b=>
   have e:oL _ _ _=O r:=e;show∃k,oL _ _ _=O r;unfold oL at e⊢;split at e;.exact F _ _ _ _ e
   .exact F _ _ _ _ e
   cases e
  |block id a=>
   have e:nN id (dE P ng L n m a T H)=O r:=e;show∃k,nN id (dE P ng _ n m a T H)=O r;cases A:dE P ng L n m a T H;.rw[A]at e;cases e
   rename_i s;obtain⟨k,K⟩:=F a T H s A;exact⟨k,by rw[K,<-A];exact e⟩
  |loop a=>
   have e:andThen _ (dE P ng L n m a T H)=O r:=e;show∃k,andThen _ (dE P ng _ n m a T H)=O r;cases A:dE P ng L n m a T H;.rw[A]at e;cases e
   rename_i s;rw[A]at e;obtain⟨u,h1⟩:=F a T H s A;obtain⟨q,M,N⟩:=s;cases q with
   |normal=>
    obtain⟨D,h2⟩:=F _ M N r e;exact⟨max u D,(HV (h.le (wU u D)) _ _ _ _ _ h1)▸HV (h.le (uK u D)) _ _ _ _ _ h2⟩
   |exit id=>exact⟨u,h1▸e⟩
   |ret=>exact⟨u,h1▸e⟩
  |region id aag dr=>
   have e:rG _=O r:=e;show∃k,rG _=O r;cases J:kK P ng L n aag T H dr;.rw[J]at e;cases e
   rename_i q;obtain⟨k,K⟩:=aEv h J;exact⟨k,by rw[K,<-J];exact e⟩
  |skip=>exact⟨0,e⟩
  |exit id=>exact⟨0,e⟩
  |ret=>exact⟨0,e⟩
  |_=>cases e
def at5(h:Ag c L){f:ck}{H:aj}(e:fp P ng L f a H r):∃k,fp P ng (c k) f a H r:=by obtain⟨fn,b,m,q,T,l,h1,h2,A,y⟩:=e;obtain⟨k,u⟩:=au1 h _ _ _ _ _ A;exact⟨k,fn,b,m,q,T,l,h1,h2,u,y⟩
end
section
variable{ng:R}
def aaB(l:aK):(ints l).length=l.length:=aw
def ahN(l:aK):(ints l).all au.dm=true:=by
 induction l with
 |nil=>rfl
 |cons a l u=>simp only[nA,ny]at u⊢;rw[u];rfl
theorem Xw(a b:aK):ints (a++b)=ints a++ints b:=aw
theorem Hk:∀(l:aK),gZ l=ints l
 |[]=>rfl
 |a::l=>by grind[gZ]
theorem JP:∀{a b:aK},gZ a=gZ b->a=b
 |[],[],_=>rfl
 |[],_::_,h=>by simp[gZ]at h
 |_::_,[],h=>by simp[gZ]at h
 |x::a,y::b,h=>by simp[gZ]at h;rw[h.1,JP (a:=a) (by simpa[gZ]using h.2)]
theorem aiG(zs:aK):(aat zs).length<=zs.length:=by grind[aat,Lib.compactUpTo]
def Hm(u:aK):aK:=aat u++ef (u.length-(aat u).length) 0
theorem aHw(zs:aK):(Hm zs).length=zs.length:=by grind[aiG,Hm]
inductive kW:FuncId->B au->aj->au×aj->Prop
 |NL {H:aj}:kW 217 [.aq] H (.tuple [],H)
 |sort {H H':aj} {v n:R} {zs:B U} (hr:aQ H.ah.get v 0 n=some (gZ zs)) (hs:∃r,H.ah.get v=some r/\r.sz=1) (hl:zs.length<=1000) (hw:write H v 0 (gZ (qp zs))=some H'):kW 217 [.slice v 0 n none] H (.tuple [],H')
 |Ln {H:aj}:kW 311 [.aq] H (.aq,H)
 |comp {H H':aj} {v n:R} {zs:B U} (hr:aQ H.ah.get v 0 n=some (gZ zs)) (hs:∃r,H.ah.get v=some r/\r.sz=1) (hl:zs.length<=1000) (hw:write H v 0 (gZ (Hm zs))=some H'):kW 311 [.slice v 0 n none] H (.slice v 0 (Lib.compact zs).length none,H')
 |fill {H:aj} {c:au} {ta:B au} {u off:R} {cs:B au} (hr:aQ H.ah.get u off 38=some cs) (hc:cs[8]? =some c) (hl:lenOf c=some 0):kW 237 [.agg ta,.ptr u off] H (.int .i64 0,H)
 |Ga {H:aj} {u off n:R} {c:au} (hr:aQ H.ah.get u off 1=some [c]) (hc:er H.ah.get 1 n c=some (gZ [])) (hn:lenOf c=some n):kW 381 [.func 382 [] [.ptr u off]] H (.aq,H)
 |G7 {H:aj} {u off n:R} {c:au} {zs:B U} (hr:aQ H.ah.get u off 1=some [c]) (hc:er H.ah.get 1 n c=some (gZ zs)) (hn:lenOf c=some n) (hl:zs.length<=1000) (h0:zs≠[]):kW 381 [.func 382 [] [.ptr u off]] H (.slice H.ae 0 zs.length none,alloc H (gZ zs) false 1)
def ahS{Bqq ng:R}{ρ:dO}{H:aj}{w w':cG}(s:jU Bqq ng ρ H w)(e:w'=w):cW Bqq ng H.ah.get H.ae H.ae ρ w H.ah.get H.aV.get ρ w':=by subst e;exact cW.refl s _ _
def ail{f:ck}{H:aj}{v:au}(hR:kW f args H (v,H'))(Bqq:R)(ρ:dO)(w:cG)(xs:jZ)(s:jU Bqq ng ρ H w)(wf:WF H)(M:ll ρ H.ae H'.ae)(hx:dS ρ args xs):
 awV af f ⟨xs⟩ w (λ e F=>∃x A,e=.returned x/\bW A v x/\cW Bqq ng H.ah.get H.ae H'.ae ρ w H'.ah.get H'.aV.get A F):=by
 cases hR with
 |NL=>
  obtain⟨y,ys,rfl,rfl,K⟩:=ep.1 hx;obtain rfl:=pM.1 K;exact(Tryz.slices_Sort_int_none X 0 w).mono λ e F ⟨h1,h2⟩=>⟨_,ρ,h1,⟨[],rfl,rfl⟩,ahS s h2⟩
 |sort D Y J S=>
  rename_i v n P;exact(ae4 s D S Y (λ cU off cap hh hb u=>(Tryz.slices_Sort_int cU off cap P w hh hb aa)) hx).mono λ e F ⟨l,J,N,he,u⟩=>⟨_,ρ,he,⟨[],rfl,rfl⟩,u⟩
 |Ln=>
  obtain⟨y,ys,rfl,rfl,K⟩:=ep.1 hx;obtain rfl:=pM.1 K;exact(Tryz.slices_Compact_int_empty X 0 w).mono λ e F ⟨h1,h2⟩=>⟨_,ρ,h1,rfl,ahS s h2⟩
 |comp D Y J S=>
  rename_i v n P;refine(ae4 (res:=λ l=>.slice (O ⟨l.cU,l.off,X⟩) (aat P).length l.cap) s D S Y (λ cU off cap hh hb u=>?_) hx).mono λ e F ⟨l,J,N,he,u⟩=>⟨_,ρ,he,⟨l,J,by simp[N]⟩,u⟩
  refine(Tryz.slices_Compact_int cU off cap P w hh aa u).mono λ e F ⟨h1,q,h2⟩=>⟨h1,q,#[],?_⟩
  rw[h2];rfl
 |fill D u J=>exact aEu s D u J hx
 |Ga D u Z=>
  refine(afk s wf (λ h=>absurd rfl h) D u Z (kG _) hx).mono ?_
  rintro e F ⟨v,rfl,⟨_,rfl,h⟩|⟨h,_⟩⟩
  .exact⟨_,ρ,rfl,rfl,h⟩
  exact absurd rfl h
 |G7 D u Z J h0=>
  refine(afk s wf (λ _=>M) D u Z J hx).mono ?_
  rintro e F ⟨v,rfl,⟨h,_⟩|⟨_,A,h1,h2⟩⟩
  .exact absurd h h0
  exact⟨_,A,rfl,h1,h2⟩
def axO:jV af ng (As kW):=λ f args H v H' h Bqq ρ w xs s wf u hx=>ail (Mh h) Bqq ρ w xs s wf u hx
def afR{f:ck}{H:aj}{v:au}(K:kW f args H (v,H')):iM H H':=by
 cases K with
 |NL=>exact iM.refl _
 |sort u F A y=>exact Nz y
 |Ln=>exact iM.refl _
 |comp u F A y=>exact Nz y
 |fill u D A=>exact iM.refl _
 |Ga u D J=>exact iM.refl _
 |G7 u D J A h0=>exact aal _ _ _ _
def auC:ib (As kW):=λ f args H v H' h=>afR (Mh h)
def asq:pg (As kW):=by
 intro f args H v H' h;cases Mh h with
 |NL=>exact iU.refl _
 |sort u F A y=>exact Mt y
 |Ln=>exact iU.refl _
 |comp u F A y=>exact Mt y
 |fill u D A=>exact iU.refl _
 |Ga u D J=>exact iU.refl _
 |G7 u D J A h0=>exact Vk _ _ _ _
open Classical in
noncomputable def sX(ng:R)(aae:bg):bg:=λ f args H=>if f=88 then(if h:∃r,vn af ng 3 8 aae 88 args H r then O (Classical.choose h)else X)else As kW f args H
def al3{H:aj}(h:vn af ng 3 8 aae 88 args H r):sX ng aae 88 args H=O r:=by have u:∃r,vn _ ng 3 8 aae 88 args H r:=⟨r,h⟩;unfold sX;rw[aY Q,OG u,(Et u).unique h]
theorem O4{f:ck}{H:aj}(h:sX ng aae f args H=O r):(f=88/\vn af ng 3 8 aae 88 args H r)\/As kW f args H=O r:=by
 unfold sX at h;split at h
 .split at h;.grind
  cases h
 exact .inr h
def xZ(f:ck):Bool:=f==88||f==217||f==311||f==237||f==381
def iY(ng:R):R->bg
 |0=>λ _ _ _=>X
 |k+1=>λ f args H=>if xZ f=V then sX ng (iY ng k) f args H else tI af ng (λ _ _ _=>X) (iY ng k) f args H
def aIK:ib (λ _ _ _=>X:bg):=nofun
def asi:pg (λ _ _ _=>X:bg):=nofun
def aDP:jV af ng (λ _ _ _=>X:bg):=nofun
def aBg(u:ib aae):ib (sX ng aae):=λ f args H v H' h=>by
 rcases O4 h with⟨_,h⟩|h
 .exact awo u h
 exact auC _ _ _ _ _ h
def auk(u:pg aae):pg (sX ng aae):=λ f args H v H' h=>by
 rcases O4 h with⟨_,h⟩|h
 .exact aBm u h
 exact asq _ _ _ _ _ h
def aBr(u:jV af ng aae)(y:ib aae):jV af ng (sX ng aae):=λ f args H v H' h=>by
 rcases O4 h with⟨rfl,A⟩|h
 .exact azF u y A
 exact axO _ _ _ _ _ h
def LL:∀k,ib (iY ng k)
 |0=>nofun
 |k+1=>λ f args H v H' h=>by
  unfold iY at h;split at h;.exact aBg (LL k) _ _ _ _ _ h
  exact asM aIK (LL k) _ _ _ _ _ h
theorem BB:∀k,pg (iY ng k)
 |0=>nofun
 |k+1=>λ f args H v H' h=>by
  unfold iY at h;split at h;.exact auk (BB k) _ _ _ _ _ h
  exact aJt asi (BB k) _ _ _ _ _ h
def ab1(u:xW af):∀k,jV af ng (iY ng k)
 |0=>nofun
 |k+1=>λ f args H v H' h=>by
  unfold iY at h;split at h;.exact aBr (ab1 u k) (LL k) _ _ _ _ _ h
  exact aHI aDP (ab1 u k) (LL k) u _ _ _ _ _ h
theorem aAc{f:ck}(h1:f≠88)(h2:f≠217)(y:f≠311)(u:f≠237)(h5:f≠381):xZ f=false:=by grind[xZ]
theorem Bg{f:ck}{H:aj}(h1:f≠88)(h2:f≠217)(y:f≠311)(h:fp af ng (iY ng k) f args H r)(u:f≠237:=by decide)(h5:f≠381:=by decide):iY ng (k+1) f args H=O r:=by show(if xZ f=V then _ else _)=_;grind[aAc,Zl]
theorem GO{f:ck}{H:aj}(h1:f≠88)(h:As kW f args H=O r):iY ng (k+1) f args H=O r:=by
 have u:xZ f=true:=by cases Mh h<;>rfl
 show(if xZ f=true then _ else _)=_;grind[sX]
def azC{H:aj}(h:sX ng (iY ng k) 88 args H=O r):iY ng (k+1) 88 args H=O r:=h
def ati{c:bg}(h:nH c d){f:ck}{H:aj}(e:vn af ng i k c f a H r):vn af ng i k d f a H r:=by obtain⟨fn,b,m,q,T,l,h1,h2,y,u,h5⟩:=e;exact⟨fn,b,m,q,T,l,h1,h2,y,HV h _ _ _ _ _ u,h5⟩
theorem aGw{c:bg}(h:nH c d):nH (sX ng c) (sX ng d):=λ f a H r e=>by
 rcases O4 e with⟨rfl,u⟩|u
 .exact al3 (ati h u)
 have y:f≠88:=by
  rintro rfl
  cases Mh u
 grind[sX]
theorem awJ{c:bg}(h:nH c d):nH (tI af ng (λ _ _ _=>X) c) (tI af ng (λ _ _ _=>X) d):=λ f a H r e=>by grind[Te,Zl,aDy]
def R6:∀k,nH (iY ng k) (iY ng (k+1))
 |0=>nofun
 |k+1=>λ f a H r h=>by
  have h:(if xZ f=V then sX ng _ f a H else tI _ ng _ _ f a H)=O r:=h;show(if xZ f=V then sX ng _ f a H else tI _ ng _ _ f a H)=O r;split at h;.rename_i u;rw[aY u];exact aGw (R6 k) _ _ _ _ h
  rename_i u;rw[aR u];exact awJ (R6 k) _ _ _ _ h
open Classical in
noncomputable def bZ(ng:R):bg:=λ f args H=>if h:∃r k,iY ng k f args H=O r then O (Classical.choose h)else X
theorem SK{f:ck}{H:aj}(h:bZ ng f args H=O r):∃k,iY ng k f args H=O r:=by
 unfold bZ at h;split at h;.grind
 cases h
def ahA(u:i<=j):nH (iY ng i) (iY ng j):=by
 obtain⟨d,rfl⟩:=Oy u;induction d with
 |zero=>exact λ _ _ _ _ e=>e
 |succ d y=>exact(y aa).trans (R6 _)
def Dw{f:ck}{H:aj}(h:iY ng k f args H=O r):bZ ng f args H=O r:=by have u:∃r k,iY ng k f args H=O r:=⟨r,k,h⟩;unfold bZ;rw[OG u];obtain⟨j,y⟩:=Et u;have b:=ahA (uK k j) _ _ _ _ y;rw[ahA (wU k j) _ _ _ _ h]at b;exact b.symm
def axy:Ag (iY ng) (bZ ng):=⟨R6,λ _ _ _ _ h=>SK h⟩
theorem nW{f:ck}(u:xZ f=W){H:aj}(h:fp af ng (bZ ng) f args H r):bZ ng f args H=O r:=by obtain⟨k⟩:=at5 axy h;refine Dw (k:=k+1) ?_;show(if xZ f=V then _ else _)=_;grind[Zl]
def aBf:ib (bZ ng):=λ f a H v H' h=>by obtain⟨k,u⟩:=SK h;exact LL k _ _ _ _ _ u
def qY:pg (bZ ng):=λ f a H v H' h=>by obtain⟨k,u⟩:=SK h;exact BB k _ _ _ _ _ u
def avV(u:xW af):jV af ng (bZ ng):=λ f a H v H' h=>by obtain⟨k,y⟩:=SK h;exact ab1 u k _ _ _ _ _ y
def Ft{D:R}{G:Gh}{u:gC}{H:aj}{f:ck}{dt:mi}(h:iV D G S H (iY ng k f xs H) v u dt):iV D G S H (bZ ng f xs H) v u dt:=by obtain⟨a,H',y,h1,h2⟩:=h;exact⟨a,H',y,Dw h1,h2⟩
theorem ai0(k:R):Wo (iY ng (k+1)):=by
 intro H s zs fm g M S;obtain⟨h1,⟨rfl,F,rfl⟩|⟨v,r,rfl,o,u,A,ht,rfl⟩⟩:=M
 .obtain rfl:=mF F;obtain⟨r,h1,h2⟩:=Gg (Rqq:=kW) (H:=H) kW.NL;have:r=(.tuple [],H):=by cases h2;rfl
  subst this;exact⟨H,GO cB h1,⟨by rw[aaB,LJ];rfl,.inl ⟨rfl,rfl,rfl⟩⟩,Fr.refl _ _,g⟩
 have Y:(gZ (qp zs)).length=zs.length:=by simp[gZ,LJ]
 obtain⟨H',K,y,Z,hn,g'⟩:=nK g o (off:=0) (new:=gZ (qp zs)) aa (by rw[Hk];exact ahN _);have P:aQ H.ah.get v 0 zs.length=O (gZ zs):=by simp only[aQ,o.row];grind[hP,Hk]
 obtain⟨D,h2,h3⟩:=Gg (Rqq:=kW) (kW.sort P ⟨r,o.row,u⟩ S K)
 have:D=(.tuple [],H'):=by
  cases h3 with
  |sort N _ _ J=>grind[JP]
 subst this;refine⟨H',GO cB h2,⟨by rw[aaB,LJ];omega,.inr ⟨v,_,rfl,y,u,?_,?_,rfl⟩⟩,Z,g'⟩;.grind[N2]
 grind[eV,List.take_append,PN,Hk]
theorem EB(h:p:=by rw[aaB];omega):p:=h
theorem ah6(k:R):acX (iY ng (k+1)):=by
 intro H s zs fm g M S;obtain⟨h1,⟨rfl,F,rfl⟩|⟨v,r,rfl,o,u,A,ht,rfl⟩⟩:=M
 .obtain rfl:=mF F;obtain⟨r,h1,h2⟩:=Gg (Rqq:=kW) (H:=H) kW.Ln;have:r=(.aq,H):=by cases h2;rfl
  subst this;exact⟨_,H,GO cB h1,⟨rfl,.inl ⟨rfl,rfl,rfl⟩⟩,Fr.refl _ _,g⟩
 have ab:=aiG zs;have Y:(gZ (Hm zs)).length=zs.length:=by rw[<-aHw zs];simp[gZ]
 obtain⟨H',K,y,Z,hn,g'⟩:=nK g o (off:=0) (new:=gZ (Hm zs)) aa (by rw[Hk];exact ahN _);have P:aQ H.ah.get v 0 zs.length=O (gZ zs):=by simp only[aQ,o.row];grind[hP,Hk]
 obtain⟨D,h2,h3⟩:=Gg (Rqq:=kW) (kW.comp P ⟨r,o.row,u⟩ S K)
 have:D=(.slice v 0 (aat zs).length X,H'):=by
  cases h3 with
  |comp N _ _ J=>grind[JP]
 subst this;refine⟨_,H',GO cB h2,⟨EB,.inr ⟨v,_,rfl,y,u,?_,?_,rfl⟩⟩,Z,g'⟩;.grind[N2]
 grind[gZ,Hm,aat,ef,Xw,Hk,eV]
end
section
variable{P:aA}{ng:R}{aae:bg}{I:Im}{H:aj}
def aHr:cY af .eql 55 .aq .aq=O (.bool V)/\cY af .eql 55 .eY .aq=O (.bool W)/\(∀v off n lim,cY af .eql 55 (.slice v off n lim) .aq=O (.bool W)):=by simp only[cY,nX,Tryz.underlying55,uM,implies_true]
def aFz:Tryz.prog.info? 9=O Tryz.t9:=aH
theorem avw:∃z,fW af 9=O z/\z.cells.length=1:=by
 refine⟨(match fW af 9 with|O z=>z|X=>.fq),?_,?_⟩;.have h:(match fW af 9 with|O _=>true|X=>W)=true:=aH;grind[fW]
 kernel_rfl
def bsS:oW af 55 0 (O [])=O ([],1,O 0):=aH
def aqx{H:aj}{x:au}{new:aF}(A:lenOf x=O n)(D:er H.ah.get 1 n x=O new):iC af H [55,55] [s,x]=gM H 1 16 s n new:=by obtain⟨z,y,u⟩:=avw;have h1:Tryz.t9.size=1:=rfl;have h2:Tryz.t9.bytes=16:=rfl;simp+decide only[iC,Tryz.underlying55,aFz,y,u,h1,h2,A,D]
theorem akm(g:Good H)(P:bO I H.ah.get){a:au}(J:RP I (.sl es X) a)(D:∀e∈es,e.length=1)(hl:es.length<=1000000):
 ∃r,fp af ng aae 226 [a] H r/\Fr X H r.2/\Good r.2/\((es=[]/\r.1=.aq/\r.2=H)\/∃u cells ex,H.ae<=u/\r.1=.slice u 0 es.length X/\r.2.ah.get u=O ⟨cells,u,0,ex,W,1⟩/\r.2.aV.get u=O [u]/\cells.length=es.length*1/\cx I 1 es cells):=by
 obtain⟨h1,cs,h2,Z,h4,h5⟩:=Bi J D P;refine lp Tryz.func226 Q ?_;show bB af ng aae 8 _ _ _ _;have a0:ai (eH [a] 0 .nil) 0=a:=rfl;refine aB (iK (H':=H) (λ _=>True) ?_ ?_)
 ·(repeat (first|(apply fC (cf rfl);(simp+decide only[AB,a0];rfl))))
  exact fX sp
 intro T1 _ k1;have b0:=aL k1 a0;obtain⟨n1,n2,n3⟩:=aHr;have A:∃b,cY af .eql 55 a .aq=O (.bool b)/\(b=V->a=.aq):=by grind
 obtain⟨b,hb,N⟩:=A;refine aB (aB (iK (H':=H) (λ T=>ai T 4=.bool b) ?_ ?_))
 ·(repeat (first|(apply fC (cf rfl);(simp+decide only[AB,b0,hb];rfl))))
  exact fX gW
 intro T2 t4 k2;have c0:=aL k2 b0;refine eX (by rw[fQ,t4]) (λ hy=>?_) (λ hn=>?_)
 .have:=N hy;subst this;refine aB (iK (H':=H) (λ T=>ai T 2=.aq) ?_ ?_)
  ·(repeat (first|(apply fC (cf rfl);(simp+decide only[AB,c0];rfl))))
   exact fX gW
  intro T3 K _;refine iZ ⟨aw,[_],Q,Fr.refl _ _,g,.inl ⟨?_,?_,Q⟩⟩;.grind[lenOf,aly,List.eq_nil_of_length_eq_zero]
  simp only[qc,K]
 .refine fZ ?_;obtain⟨u,H',ex,w1,w2,w3,w4,w5,w6⟩:=ZQ (H:=H) g (sz:=1) (bytes:=16) (n:=es.length) (new:=cs) cB Z mE mE;have F:=iv g [] V 1
  have M:er (alloc H [] V 1).ah.get 1 es.length a=O cs:=by
   obtain⟨q1,cs',q2,q3,q4,_⟩:=Bi J D (I:=I) (H:=alloc H [] V 1) (λ u r e=>F.row u r (P u r e) aw);rw[q2]
   have ab:er H.ah.get 1 es.length a=O cs':=by
    revert q2;rcases h5 with rfl|rfl|⟨v,off,lim,rfl⟩
    .exact id
    .exact id
    simp only[er,cD (aZ _)];simp only[RP]at J;rcases J with⟨_,h|h⟩|⟨v',S,Y,r',aa,e1,e2,_⟩
    .cases h
    .cases h
    cases e1;have x1:=P _ _ e2;have x2:=F.row _ _ x1 aw;grind[aQ,id]
   grind
  have y:=aqx (H:=alloc H [] V 1) (s:=.slice H.ae 0 0 X) h1 M;rw[w1]at y;refine aB (iK (H':=H') (λ T=>ai T 2=.slice u 0 es.length X) ?_ ?_)
  ·(repeat (first|(apply fC (cf rfl);(simp+decide only[AB,c0,bsS,y];rfl))))
   exact fX gW
  intro T3 K _;exact iZ ⟨aw,[_],Q,w5,w6,.inr ⟨u,cs,ex,w2,by simp only[qc,K],w3,w4,Z,h4⟩⟩
variable{gl:bH}{G:Gh}
theorem aEA(u:cH G (eJ []) H)(M:es.length<=1000)(y:∀e∈es,e.length=1)(A:bu ρ0 G.I [.sl es X] xs)(N:pg aae):∃r,fp af ng aae 226 xs H r/\iV 0 G [] H (O r) (.sl es (O 1)) [] false:=by
 obtain⟨a,rfl,h1⟩:=MQ A;have h1:RP G.I (.sl es X) a:=by simpa only[aJ]using h1
 obtain⟨r,K,J,F,D⟩:=akm (ng:=ng) (aae:=aae) u.gd u.gI h1 y aa;grind[WS]
end
section
variable{a:U}{fm:bA}
variable{ng:R}{G:Gh}{H:aj}{I:Im}
def Vz:∀{l:aK} {cs:aF},cx I 1 (l.map λ n=>[eI n]) cs->cs=ints l
 |[],cs,h=>by simpa[cx,ints]using h
 |n::l,cs,h=>by
  obtain⟨_,h1,h2⟩:=h;cases cs;.simp[dq]at h1
  rename_i c cs;obtain⟨y,u,⟨⟩,e2,e3⟩:=h1;rw[kR,gU]at h2;rw[Vz h2,e2.1];simp
def RJ{g:fE}(y:bO I g){a:au}(h:RP I (aO l) a):jX g 1 l.length a (ints l):=by
 rw[RP,br]at h;rcases h with⟨h1,h2⟩|⟨v,off,lim,r,sz,h1,h2,D,A,h5⟩
 .have:=by simpa using h1
  subst this;exact⟨Q,.inl ⟨Q,h2⟩⟩
 refine⟨EB,?_⟩;cases l;.refine .inr ⟨v,off,lim,r,h1,y _ _ h2,bP,aw⟩
 rename_i n l;have u:=h5.1.symm;subst u;exact .inr ⟨v,off,lim,r,h1,y _ _ h2,A,Vz h5⟩
theorem F1(h:p:=by rw[br]):p:=h
theorem aAY(u:cH G (eJ []) H)(D:Good H')(fr:Fr X H H')(y:iU H H')(h:cm H' 1 l.length s (ints l) fm)(A:lq H fm):iV 0 G [] H (O (s,H')) (aO l) [] false:=by
 refine yX u D fr y ?_ λ j es sz c e e2=>?_
 .simpa only[aJ]using(h.rp u.gd fr y A F1 FD)
 grind[ak.cells]
theorem ana(k:R):VE (iY ng (k+1)):=by
 intro I H l a g K J Y;obtain⟨r,F,A,y,D⟩:=agA g K J (λ e Z=>by grind) FZ
 refine⟨r,Bg cB cB cB F,?_⟩;rcases D with⟨S,e1,e2⟩|⟨u,cells,ex,h1,h2,P,N,h5,M⟩
 .have:=by simpa using S
  subst this;exact⟨X,⟨Q,.inl ⟨e1,Q,Q⟩⟩,λ f e=>bk,A,y⟩
 rw[br]at h2 h5;have hc:=Vz M;exact⟨O u,⟨EB,.inr ⟨u,_,h2,⟨P,Q,_,N⟩,Q,bP,bP,Q⟩⟩,λ f e=>(by cases e;exact h1),A,y⟩
theorem axZ(k:R):ai2 (iY ng (k+1)):=λ H n g u=>by obtain⟨r⟩:=aH3 (ng:=ng) (aae:=iY ng k) g u;grind[Bg]
theorem aBN(k:R)(u:cH G (eJ []) H)(D:es.length<=1000)(y:∀e∈es,e.length=3)(A:bu ρ0 G.I [.sl es X] xs):iV 0 G [] H (iY ng (k+1) 258 xs H) (.sl es (O 3)) [] false:=by obtain⟨r⟩:=aFZ (ng:=ng) u D y A (BB (ng:=ng) k);grind[Bg]
theorem awt(k:R)(u:cH G (eJ []) H)(D:es.length<=1000)(y:∀e∈es,e.length=1)(A:bu ρ0 G.I [.sl es X] xs):iV 0 G [] H (iY ng (k+1) 226 xs H) (.sl es (O 1)) [] false:=by obtain⟨r⟩:=aEA (ng:=ng) u D y A (BB (ng:=ng) k);grind[Bg]
theorem arM(k:R)(u:cH G (eJ []) H)(A:l.length<=1000)(y:bu ρ0 G.I [aO l] xs):iV 0 G [] H (iY ng (k+1) 144 xs H) (eIo l) [] false:=by obtain⟨r⟩:=azR (ng:=ng) u A y (BB (ng:=ng) k);grind[Bg]
theorem aji{tn:aP}(h:bu ρ0 I [.agg [.sl tn X,.sl te X],eI a] xs):∃u y,xs=[.agg [u,y],ao a]/\RP I (.sl tn X) u/\RP I (.sl te X) y/\u.dm=true/\y.dm=true:=by obtain⟨c,cs,rfl,h1,h2⟩:=bJ.1 h;obtain⟨c2,S,rfl,M,K⟩:=bJ.1 h2;subst K;simp only[aJ]at h1 M;obtain⟨_,bs,rfl,h5⟩:=h1;obtain⟨u,P,rfl,D,J⟩:=bJ.1 h5;obtain⟨y,N,rfl,A,F⟩:=bJ.1 J;subst F;have Z:=C1 D Q;have Y:=C1 A Q;simp only[aJ]at D A;grind
theorem aDd(k:R){K:aj}(g:Good K)(h:cm K 1 l.length s (ints l) fm)(u:l.length<=1000):∃r,iY ng (k+1) 316 [s] K=O r/\cm r.2 1 l.length s (ints l.reverse) fm/\Fr fm K r.2/\Good r.2:=by obtain⟨r⟩:=aAb (ng:=ng) (aae:=iY ng k) g h u;grind[Bg]
def arw{l:aF}{H:aj}:eL af aae 316 l H=aae 316 l H:=by rw[eL,Tryz.func316];rfl
theorem aAj(k:R)(u:cH G (eJ []) H){tn:aP}(D:Ak tn){a:R}(K:a<tn.length)(F:bu ρ0 G.I [.agg [.sl tn X,.sl te X],eI a] xs):iV 0 G [] H (iY ng (k+2) 256 xs H) (aO (mC tn (a+1) a).reverse) [] false:=by obtain⟨N,P,rfl,h1,h2,A,y⟩:=aji F;obtain⟨r,M,S⟩:=ato u.gd u.gI D h1 A y K (λ f args H e=>by subst e;exact arw) (λ g h J=>aDd k g h J);rw[Bg cB cB cB M];grind[List.length_reverse,aAY,yl,BB]
theorem aIn(k:R)(u:cH G (eJ []) H)(A:l.length<=1000)(y:bu ρ0 G.I [aO l] xs):iV 0 G [] H (iY ng (k+2) 251 xs H) (eI ((aat (qp l)).length:U)) [] false:=by
 obtain⟨s,rfl,h1⟩:=MQ y;obtain⟨r,h2,F,D,h5⟩:=aJh u.gd u.gI h1 A (ana k) (ai0 k) (ah6 k);rw[Bg cB cB cB h2];obtain⟨v⟩:=r;subst F;refine yX u h5 D (yl (BB _) h2) (by simp[aJ,jP]) λ j es sz c e e2=>?_
 grind[ak.cells]
open Classical in
noncomputable def Gs(j:R):eE:=λ f args S=>match args with
 |[.agg [.sl tn X,.sl _ X],.sc (.int .i64 a)]=>if f=88/\sO tn/\a<tn.length/\a+1<j/\j<=1000/\ -1<=a then O (.sl (dP tn j a) (O 4),S,W)else X
 |_=>X
theorem ays{tn:aP}(u:sO tn)(A:a<tn.length)(h:a+1<j)(y:j<=1000)(hm: -1<=a):Gs j 88 [.agg [.sl tn X,.sl te X],eI a] S=O (.sl (dP tn j a) (O 4),S,W):=by grind[Gs]
theorem JV{f:R}{args:be}{y:gC}{u:mi}(h:Gs j f args S=O (v,y,u)):∃tn te a,f=88/\args=[.agg [.sl tn X,.sl te X],eI a]/\sO tn/\a<tn.length/\a+1<j/\(j<=1000/\ -1<=a)/\v=.sl (dP tn j a) (O 4)/\y=S/\u=false:=by unfold Gs at h;grind
theorem asQ:∀fn c,Tryz.prog.funcs[88]? =O fn->fn.body=O c->wF 3 8 c=true:=by grind[agE,anl]
theorem afZ{gl:bH}(K:pJ ng gl (Gs j) (iY ng j)){tn te:aP}(u:sO tn)(h1:a<tn.length)(h2:a+1<(j+1:R))(h3:j+1<=1000)(M:cH G (eJ []) H)(N:mJ ng gl G)(hr:bu ρ0 G.I [.agg [.sl tn X,.sl te X],eI a] xs):
 iV 0 G [] H (iY ng (j+1) 88 xs H) (.sl (dP tn (j+1) a) (O 4)) [] false:=by
 have P:=aF3 (gl:=gl) (aae:=Gs j) (te:=te) u (f:=j) aa h1 (λ h0 S=>by obtain⟨c0,p,c2,l,e,p1,Z⟩:=u.2 _ (aa:a.toNat<tn.length);grind[mR,ays]) []
 obtain⟨m,hm⟩:=arC (pol:=λ _=>ak8) anl P;obtain⟨x,H',Y,J,F,D,A,y⟩:=aqz K hm asQ Q M N (xs0:=xs) (by grind[agt]) (λ d k e=>by rw[MY]at e;cases e);exact⟨x,H',Y,azC (al3 J),F,D,A,y⟩
theorem csA{gl:bH}:∀j,pJ ng gl (Gs j) (iY ng j)
 |0=>⟨λ f args S v y u h=>by
  grind[JV],λ f args S v y u h A=>by
  grind[JV],λ f args S v y u D h _=>by
  grind[JV]⟩
 |j+1=>by
  have K:=csA (gl:=gl) j;refine⟨λ f args S v y u h A M=>?_,λ f args S v y u h A=>?_,λ f args S v y u D h _=>?_⟩;.obtain⟨tn,te,a,rfl,rfl,F,h1,h2,J,rfl,rfl,rfl⟩:=JV h;grind[afZ]
  .obtain⟨tn,te,a,rfl,rfl,F,h1,h2,J,rfl,rfl,rfl⟩:=JV h;cases A
  obtain⟨_,_,_,rfl,_⟩:=JV h;cases D
theorem aHH(k:R)(u:cH G (eJ []) H)(F:mJ ng gl G){tn:aP}(y:sO tn){a:R}(K:a<tn.length)(J:a+1<k)(D:k<=999)(A:bu ρ0 G.I [.agg [.sl tn X,.sl te X],eI a] xs):
 iV 0 G [] H (iY ng (k+1) 88 xs H) (.sl (dP tn (a+1) a) (O 4)) [] false:=by
 have:=afZ (csA k) y aa aa aa u F A;grind[O9]
end
section
variable{a b:aP}
variable{ng:R}{G:Gh}{H:aj}{I:Im}
def zW(e:be):Prop:=∃(a b d:U) (c:mi),e=[eI a,eI b,eB c,eI d]
def MZ:ak->au
 |.sc a=>a
 |_=>.fq
def pK(es:aP):Ah:=es.map λ e=>e.map MZ
theorem ZE(h:∀e∈es,zW e):F4 (pK es):=λ x hx=>by obtain⟨e,u,rfl⟩:=lO.1 hx;obtain⟨a,b,d,c,rfl⟩:=h e u;exact⟨Q,Q⟩
theorem aAZ{e:be}(h:zW e):dq I e cs↔cs=e.map MZ:=by
 obtain⟨a,b,d,c,rfl⟩:=h;simp only[dq,RP,nA,KN,MZ];constructor;.grind
 rintro rfl
 exact⟨_,_,Q,⟨Q,Q⟩,_,_,Q,⟨Q,Q⟩,_,_,Q,⟨Q,Q⟩,_,_,Q,⟨Q,Q⟩,Q⟩
theorem aiP(h:p:=by grind[List.length_map]):p:=h
theorem ab7:∀{es:aP} {cs:aF},(∀e∈es,zW e)->(cx I 4 es cs↔cs=fl (pK es))
 |[],cs,_=>by simp[cx,pK,fl]
 |e::es,cs,h=>by
  have A:=@ab7 es (cs.drop 4) λ x hx=>h x (cV _ hx)
  have y:=h e dJ;have D:(e.map MZ).length=4:=by obtain⟨a,b,d,c,rfl⟩:=y;rfl
  have h5:e.length=4:=aiP;have u:fl (pK (e::es))=e.map MZ++fl (pK es):=rfl;simp only[cx];grind[aAZ,List.take_append_drop,PN,List.drop_of_length_le]
theorem aiM{g:fE}(A:bO I g)(y:∀e∈es,zW e){a:au}(h:RP I (.sl es X) a):jX g 4 (pK es).length a (fl (pK es)):=by
 have D:(pK es).length=es.length:=br ..;simp only[RP]at h;rcases h with⟨h1,h2⟩|⟨v,off,lim,r,sz,h1,h2,J,F,h5⟩
 .subst h1;exact⟨Q,.inl ⟨Q,h2⟩⟩
 refine⟨RR (ZE y),?_⟩;cases es;.exact .inr ⟨v,off,lim,r,h1,A _ _ h2,by grind[List.length_nil],by simp[fl,pK]⟩
 rename_i e es;have u:sz=4:=by obtain⟨a,b,d,c,rfl⟩:=y e dJ;simp only[cx]at h5;exact h5.1.symm
 subst u;rw[D];exact .inr ⟨v,off,lim,r,h1,A _ _ h2,F,(ab7 y).1 h5⟩
theorem aDB(K:bO I H.ah.get)(ha:a.length<=2000)(hb:b.length<=2000)(ca:∀e∈a,zW e)(cb:∀e∈b,zW e)(h:RP I (.sl [[.sl a X],[.sl b X]] X) s):MX H.ah.get s [pK a,pK b]:=by
 obtain⟨h1,cs,h2,h3,Z,h5⟩:=Bi h (sz:=1) (λ e he=>by grind[List.mem_singleton]) K
 simp only[cx,dq]at Z;obtain⟨_,⟨N,ab,e1,r1,rfl⟩,_,⟨M,aa,e2,r2,rfl⟩,e3⟩:=Z
 have F:cs=[N,M]:=by
  match cs,h3 with
  |[x,y],_=>grind[List.cons.injEq]
 subst F;have h:=h;rw[RP]at h;rcases h with⟨h0,_⟩|⟨v,off,lim,r,sz,Y,S,k3,u,P⟩
 .cases h0
 have D:sz=1:=by simp only[cx]at P;exact P.1.symm
 subst D;refine⟨[N,M],⟨Q,.inr ⟨v,off,lim,r,Y,K _ _ S,u,?_⟩⟩,λ i z c A J=>?_⟩;.subst Y;have u:off+2<=r.cells.length:=u;have h2:er H.ah.get 1 2 (.slice v off 2 lim)=O [N,M]:=h2;simp only[er,cD (aZ 2),OF,aQ,K _ _ S,cD u]at h2;exact tO h2
 have la:(pK a).length=a.length:=br ..;have lb:(pK b).length=b.length:=br ..
 match i,A,J with
 |0,A,J=>grind[aiM,ZE]
 |1,A,J=>grind[aiM,ZE]
theorem aHL(k:R)(u:cH G (eJ []) H)(Z:a.length<=1000)(Y:b.length<=1000)(K:∀e∈a,zW e)(J:∀e∈b,zW e)(M:bu ρ0 G.I [.sl [[.sl a X],[.sl b X]] X] xs):iV 0 G [] H (iY ng (k+2) 149 xs H) (.sl (a++b) X) [] false:=by
 obtain⟨s,rfl,h1⟩:=MQ M;have h1:RP G.I (.sl [[.sl a X],[.sl b X]] X) s:=by simpa only[aJ]using h1
 have S:(pK a).length=a.length:=br ..;have lb:(pK b).length=b.length:=br ..;obtain⟨r,h2,fm,D,A,h5,P⟩:=aFx (ng:=ng) (axZ (ng:=ng) k) u.gd (aDB u.gI aa aa K J h1) (by show 2<=2000;decide) gD;rw[Bg cB cB cB h2];have y:[pK a,pK b].flatten=pK (a++b):=by simp[pK]
 rw[y]at D;have F:=yl (BB (ng:=ng) (k+1)) h2;obtain⟨v,H'⟩:=r;refine yX u h5 A F ?_ λ j es sz c e e2=>?_
 .have:=D.rp (I:=G.I) u.gd A F P.f (es:=a++b) (by simp[pK]) ((ab7 λ e N=>(wa.1 N).elim (K e) (J e)).2 Q);simpa only[aJ]using this
 grind[ak.cells]
end
section
variable{ng:R}{gl:bH}{I:Im}{H K K':aj}
def Mn(I:Im):Gh:=⟨λ _ _=>X,I,λ _=>X,λ _=>0⟩
def vs0(g:Good K)(y:bO I K.ah.get):cH (Mn I) (eJ []) K where
 gd:=g
 gI:=y
 box:=λ d k cs e=>by rw[Cc]at e;cases e
 inj:=λ d k F D cs A u e=>by rw[Cc]at e;cases e
 aI:=λ f s e=>bk
 oT:=λ d k u e=>bk
def TV(y:bO I H.ah.get)(fr:Fr X H K):bO (eh I H K) K.ah.get:=λ u r e=>by
 unfold eh at e;split at e;.exact fr.row u r (y u r e) aw
 exact e
def nw(g:Good H)(y:bO I H.ah.get):bO I (eh I H K):=λ u r e=>by unfold eh;rw[aY (g.wf u r (y u r e)).1];exact e
def aJw(fr:Fr X K K'):bO (eh I H K) (eh I H K'):=λ u r e=>by
 unfold eh at e⊢;by_cases h1:u<H.ae;.rw[aY h1]at e⊢;exact e
 rw[aR h1]at e⊢;exact fr.row u r e aw
def yo{aae:eE}{y:bg}(J:pJ ng gl aae y)(Z:pg y)(F:mJ ng gl (Mn I))(g0:Good H)(N:bO I H.ah.get)(M:Good K)(fr:Fr X H K)
 {f:ck} {args:be} (hc:aae f args []=O (v,[],W)) (Y:args.any ak.open=W) (P:args.map dg=args) (S:bu ρ0 (eh I H K) args xs):
 ∃a K',y f xs K=O (a,K')/\Good K'/\Fr X K K'/\iU K K'/\aJ ρ0 (eh I H K') v a:=by
 obtain⟨_,_,h3⟩:=J.plain f args [] v [] W hc Y P;obtain⟨a,K',G',e1,e2,e3,e4,e5⟩:=h3 (Mn (eh I H K)) K xs (vs0 M (TV N fr)) (F.mono (nw g0 N)) S;have dd:iU K K':=Z _ _ _ _ _ e1
 have A:Fr X K K':=by
  refine⟨λ u r e _=>?_,λ f m e _=>?_,e3.ae⟩
  .rcases e3.rows u (M.wf u r e).1 with D|⟨d,k,_,D,_⟩
   .rw[D];exact e
   rw[Cc]at D;cases D
  rw[e3.aV f (M.mem f m e).1 Q];exact e
 refine⟨a,K',e1,e2.gd,A,dd,wW (λ _ _ _ e=>e) (λ u r e=>?_) _ _ e4⟩;by_cases h1:u<K.ae;.exact aJw A u r (e3.qq u r e h1)
 .unfold eh;have:=fr.ae;rw[aR aa];exact e2.gI u r e
end
section
variable{L:bg}
variable{P:aA}{ng:R}{gl:bH}
structure Sk (ng:R) (gl:bH) (bset:uk) (base:fi) (L:bg):Prop where
 some_:∀f args v,bset f=true->base f args=some v->args.any ak.open=false->args.map dg=args->∀G H aah,cH G (eJ []) H->mJ ng gl G->bu ρ0 G.I args aah->iV 0 G [] H (L f aah H) v [] false
 open_:∀f args S v,bset f=true->GZ f args S=some v->args.map dg=args->∀G H aah,cH G (eJ S) H->mJ ng gl G->bu (dL S.length G.ρ) G.I args aah->iV S.length G S H (L f aah H) v S false
 agN:∀f,Am f=true->bset f=true
 U6:∀f args v,Am f=true->base f args=some v->args.any ak.open=false->args.map dg=args->∃es,v=.sl es (some 1)/\∀G H aah,cH G (eJ []) H->mJ ng gl G->bu ρ0 G.I args aah->∃H' cells,L f aah H=some (.slice H.ae 0 es.length none,H')/\HEq (alloc H cells true 1) H'/\dq G.I es.flatten cells
theorem aek{pol:pz}{bset:uk}{base:fi}(hL:∀f args H r,bset f=W->fp P ng L f args H r->L f args H=O r)(M:Sk ng gl bset base L):∀m,pJ ng gl (rC P pol gl bset base m) L
 |0=>⟨λ _ _ _ _ _ _ h=>bk,λ _ _ _ _ _ _ h=>bk,λ _ _ _ _ _ _ _ h=>bk⟩
 |m+1=>by
  have ih:=aek (pol:=pol) hL M m;refine⟨λ f args S v S1 dt h y K=>?_,λ f args S v S1 dt h y K=>?_,λ f args S v S1 dt hf h K=>?_⟩
  .unfold rC at h;split at h
   .rename_i u;rw[y]at h;split at h;.rename_i w F;cases h;exact⟨Q,Q,λ G H aah A D J=>M.some_ f args v u F y K G H aah A D J⟩
    .rename_i e _;cases e
    cases h
   rename_i u;unfold DO at h;rw[y]at h;simp at h;split at h<;>cases h;rename_i v' S' w aa;refine⟨Q,Q,λ G H aah A D J=>?_⟩;obtain⟨a,H',G',k1,k2,N,Z,Y⟩:=agW ih aa K A D (aah:=aah) (by grind[agt]) (λ d k e=>by rw[MY]at e;cases e);have ab:=by simpa[eJ]using N.sM
   subst ab;exact⟨a,H',G',hL _ _ _ _ u k1,k2,N,Z,Y⟩
  .unfold rC at h;split at h
   .rename_i u;rw[y]at h;split at h;.rename_i e _;cases e
    .rename_i w F;cases h;exact λ G H aah A D J=>M.open_ f args S v u F K G H aah A D J
    cases h
   rename_i u;unfold DO at h;rw[y]at h;intro G H aah A D J;obtain⟨a,H',G',k1,k2,N,Z,Y⟩:=agW (dt:=dt) ih h K A D J (λ d k _ e=>by rw[e];trivial);exact⟨a,H',G',hL _ _ _ _ u k1,k2,N,Z,Y⟩
  unfold rC at h;rw[M.agN f hf]at h;simp at h;split at h;.rename_i w y F;cases h;obtain⟨es,e1,e2⟩:=M.U6 f args v hf F y K;exact⟨y,Q,Q,es,e1,λ G H aah A D J=>e2 G H aah A D J⟩
  .rename_i w y F;rw[aEg hf]at F;cases F
  cases h
def YX{pol:pz}{bset:uk}{base:fi}(hL:∀f args H r,bset f=W->fp P ng L f args H r->L f args H=O r)(D:Sk ng gl bset base L):pJ ng gl (vω P pol gl bset base) L:=by
 have h:=λ m=>aek (pol:=pol) hL D m
 refine⟨λ f args S v y u e=>?_,λ f args S v y u e=>?_,λ f args S v y u A e=>?_⟩;.obtain⟨m,hm⟩:=LN f args S _ e;exact(h m).plain f args S v y u (hm m (aZ _))
 .obtain⟨m,hm⟩:=LN f args S _ e;exact(h m).open_ f args S v y u (hm m (aZ _))
 obtain⟨m,hm⟩:=LN f args S _ e;exact(h m).fresh f args S v y u A (hm m (aZ _))
end
section
variable{ng:R}{gl:bH}{G:Gh}{H K K':aj}{I:Im}
def js:bH:=λ _=>X
def uT:mJ ng js G:=λ g cs h=>bk
def atd{y:aF}{c:au}(A:aQ H.ah.get u off 38=O cs)(F:cs[8]? =O c)(D:lenOf c=O 0):bZ ng 237 [.agg y,.ptr u off] H=O (ao 0,H):=by
 obtain⟨r,h1,h2⟩:=Gg (Rqq:=kW) (f:=237) (args:=[.agg y,.ptr u off]) (H:=H) (.fill A F D);have:r=(ao 0,H):=by cases h2;rfl
 subst this;exact Dw (k:=1) (GO cB h1)
def YO{a:au}(h:RP I (.sl [] X) a):lenOf a=O 0:=by simp only[RP]at h;rcases h with⟨_,rfl|rfl⟩|⟨v,off,lim,r,sz,rfl,_⟩<;>rfl
theorem ala{f:ck}{args:be}(h:GZ f args S=O v)(Y:cH G (eJ S) H)(hr:bu (dL S.length G.ρ) G.I args xs):iV S.length G S H (bZ ng f xs H) v S false:=by
 unfold GZ at h;split at h
 .rename_i l d k M;have M:=cI M;subst M;split at h
  .rename_i cs N;split at h
   .rename_i o K hc;cases h;have K:=cI K;obtain⟨c1,zs,rfl,h1,h2⟩:=bJ.1 hr;obtain⟨c2,ys,rfl,h3,Z⟩:=bJ.1 h2;simp only[bu]at Z;subst Z;simp only[aJ]at h1 h3;obtain⟨_,bs,rfl,_⟩:=h1;obtain⟨u,hu,rfl⟩:=h3;have hu:G.ρ d k=O u:=by grind[dL]
    obtain⟨u',r,F⟩:=Y.box d k cs (by rw[Bu];exact N);have y:=F.ref;rw[hu]at y;cases y;have D:r.cells.length=38:=by rw[sQ F.cells,K]
    have J:aQ H.ah.get u 0 38=O r.cells:=by simp only[aQ,F.row,Ew,D,cD (aZ 38),gU];rw[mT aa]
    obtain⟨c8,P,A⟩:∃c8,r.cells[8]? =O c8/\aJ (dL (d+1) G.ρ) G.I (.sl [] o) c8:=J9 F.cells hc;simp only[aJ]at A;rw[atd J P (YO A)];refine⟨_,H,G,Q,Y,dF.refl _ _ _ _ _ _,?_,λ j es sz a e e2=>?_⟩;.simp[aJ,jP]
    match j with
    |0=>cases e
    |j+1=>cases e
   cases h
  cases h
 cases h
def hL{f:ck}{H:aj}(y:bset f=W)(h:fp af ng (bZ ng) f args H r):bZ ng f args H=O r:=by
 refine nW ?_ h;cases u:xZ f;.rfl
 exfalso;simp only[xZ,rP,UK]at u;rcases u with(((rfl|rfl)|rfl)|rfl)|rfl<;>cases y
def Zm(f:ck)(h:Am f=true):bset f=true:=by have:f=171:=cI h;subst this;rfl
def bs0:fi:=λ _ _=>X
def as0:pJ ng js (VW js bs0) (bZ ng):=YX (λ _ _ _ _ u h=>hL u h) ⟨λ _ _ _ _ h=>bk,λ f args S v u h D G H xs y F A=>ala h y A,Zm,λ _ _ _ _ h=>bk⟩
def ZB(k:R):VE (bZ ng):=λ I H l a g A u y=>by obtain⟨r,h1,h2⟩:=ana (ng:=ng) 0 I H l a g A u y;exact⟨r,Dw h1,h2⟩
def ajW:Wo (bZ ng):=λ H s u D g y A=>by obtain⟨H',h1,h2⟩:=ai0 (ng:=ng) 0 H s u D g y A;exact⟨H',Dw h1,h2⟩
end
section
variable{T':aM}{l:dM}{o:Oper}
variable{P:aA}{ng n:R}{aae:bg}
def DW(bef:oh):dM->R->bG->bG->mi->mi
 |[],_,_,_,_=>V
 |o::l,i,rs,bM,eO=>match dK o.op with
  |0=>DW bef l (i+1) rs bM eO
  |1=> !eO&&DW bef l (i+1) (i::rs) bM eO
  |2=>DW bef l (i+1) rs (i::bM) eO
  |_=>qw (bef i) bM&&(qw (bef i) rs&&DW bef l (i+1) rs (i::bM) V)
def UB(P:aA)(ng:R)(aae:bg)(H0:aj)(T:aM)(H:aj)(o:Op):kO:=
 match dK o with
 |1=>(match bR P ng aae T H0 o with|O r=>O (r.1,H)|X=>X)
 |_=>bR P ng aae T H o
def wJ(P:aA)(ng:R)(aae:bg)(n:R)(H0:aj)(aag:dM):dM->aM->aj->CD
 |[],T,H=>O (T,H)
 |o::l,T,H=>if cn aag T o=V then(match UB P ng aae H0 T H o.op with|O r=>wJ P ng aae n H0 aag l (dZ n T o.dst r.1) r.2|X=>X)else wJ P ng aae n H0 aag l (dZ n T o.dst (.tuple [])) H
theorem afK{H:aj}(wf:WF H){ex:mi}{sz:R}:(∀u r,H.ah.get u=O r->(alloc H cs ex sz).ah.get u=O r)/\WF (alloc H cs ex sz):=by
 refine⟨λ u r h=>?_,λ u r h=>?_⟩;.have:=(wf u r h).1;grind[alloc,Tr.uW]
 simp[alloc]at h⊢;rw[Tr.jg]at h;split at h;.grind
 have:=wf u r h;exact⟨aa,aa⟩
theorem BX:∀{l:dM} {i:R} {rs bM:bG} {eO:mi} {S:jf} {T T':aM} {H H':aj},DW bef l i rs bM eO=V->(∀a∈S.bM,a∈bM)->(∀r∈S.rs,r.1∈rs)->(eO=W->(∀u r,H0.ah.get u=O r->H.ah.get u=O r)/\WF H/\S.es=[])->
 (∀r∈S.rs,dY P ng r.2.1 H0.ah.get r.2.2.1=O r.2.2.2)->(∀r∈S.rs,∀e∈S.es,tb (bef e.1) r.1=V)->wJ P ng aae n H0 aag l T H=O (T',H')->
 ∃Y,kx P ng aae n aag bef l i S T H=O (Y,T',H')/\(∀r∈Y.rs,dY P ng r.2.1 H0.ah.get r.2.2.1=O r.2.2.2)/\(∀r∈Y.rs,∀e∈Y.es,tb (bef e.1) r.1=V)
 |[],i,rs,bM,eO,S,T,T',H,H',_,_,_,_,J,h5,h=>by cases h;exact⟨S,Q,J,h5⟩
 |o::l,i,rs,bM,eO,S,T,T',H,H',y,h1,h2,M,J,h5,h=>by
  unfold wJ at h;rw[BM];simp only[DW]at y;cases hw:cn aag T o
  .rw[hw]at h;rcases Na o.op with A|A|A|A
   .rw[A]at y;exact BX y h1 h2 M J h5 h
   .rw[A]at y;simp only[bq]at y;exact BX y.2 h1 (λ r hr=>cV _ (h2 r hr)) M J h5 h
   .rw[A]at y;exact BX y (λ a F=>cV _ (h1 a F)) h2 M J h5 h
   rw[A]at y;simp only[bq]at y;exact BX y.2.2 (λ a F=>cV _ (h1 a F)) h2 (λ e=>bk) J h5 h
  rw[hw]at h;unfold UB at h;rcases Na o.op with A|A|A|A
  .rw[A]at y h;simp only at h;cases D:bR P ng aae T H o.op;.rw[D]at h;cases h
   rename_i r;rw[D]at h;simp only at h⊢;rw[acO A];have Z:r.2=H:=by simp only[bR,A]at D;unfold iG at D;split at D<;>cases D;rfl
   rw[Z]at h⊢;exact BX y h1 h2 M J h5 h
  .rw[A]at y h;simp only[bq,Bool.not_eq_true']at y;obtain⟨e1,e2,e3⟩:=M y.1;simp only at h;cases D:bR P ng aae T H0 o.op;.rw[D]at h;cases h
   rename_i r;rw[D]at h;simp only at h;have N:dY P ng T H0.ah.get o.op=O r.1:=by simp only[bR,A]at D;unfold iG at D;grind
   have aa:bR P ng aae T H o.op=O (r.1,H):=by simp only[bR,A,BF e1 N];rfl
   rw[aa];simp only;rw[aci A];refine BX (S:=wX i T o.op S r.1) y.2 h1 (λ x hx=>?_) M (λ x hx=>?_) (λ x hx e he=>?_) h
   .rcases cg.1 (hx)with rfl|hx
    .exact dJ ..
    exact cV _ (h2 x hx)
   .rcases cg.1 (hx)with rfl|hx
    .exact N
    exact J x hx
   have he:e∈S.es:=he;rw[e3]at he;cases he
  .rw[A]at y h;simp only at h;cases D:bR P ng aae T H o.op;.rw[D]at h;cases h
   rename_i r;rw[D]at h;simp only at h⊢;have K:∃cs sz,r.2=alloc H cs V sz:=by simp only[bR,A]at D;unfold sy at D;grind
   obtain⟨cs,sz,K⟩:=K;rw[show jt (bef i) i T o.op S r=O (Bn i S) by unfold jt;rw[A];rfl];refine BX (S:=Bn i S) y (λ a F=>?_) h2 (λ e=>?_) J h5 h
   .rcases cg.1 (F)with rfl|F
    .exact dJ ..
    exact cV _ (h1 a F)
   obtain⟨e1,e2,e3⟩:=M e;rw[K];exact⟨λ u r hu=>(afK e2).1 u r (e1 u r hu),(afK e2).2,e3⟩
  rw[A]at y h;simp only[bq]at y;simp only at h;cases D:bR P ng aae T H o.op;.rw[D]at h;cases h
  rename_i r;rw[D]at h;simp only at h⊢;rw[Uh A (tW.2 λ a F=>tW.1 y.1 a (h1 a F))];refine BX (S:=D2 i S r.2) y.2.2 (λ a F=>?_) h2 (λ e=>bk) J (λ x hx e he=>?_) h
  .rcases cg.1 (F)with rfl|F
   .exact dJ ..
   exact cV _ (h1 a F)
  rcases cg.1 (he)with rfl|he
  .exact tW.1 y.2.1 _ (h2 x hx)
  exact h5 x hx e he
theorem aE8{aag:dV}{H:aj}(wf:WF H)(y:DW (eA aag) aag.toList 0 [] [] W=true)(h:wJ P ng aae n H aag.toList aag.toList T H=O (T',H')):kK P ng aae n aag T H true=O (T',H'):=by
 obtain⟨S,h1,h2,A⟩:=BX (S:=⟨[],[],[]⟩) y (nofun) (λ a u=>bk) (λ _=>⟨λ _ _ e=>e,wf,Q⟩) (λ a u=>bk) (λ a u=>bk) h;refine Mk ?_;rw[h1,pQ]
 have:∀rs,(∀r∈rs,dY P ng r.2.1 H.ah.get r.2.2.1=O r.2.2.2)->(∀r∈rs,∀e∈S.es,tb (eA aag e.1) r.1=true)->wK P ng (eA aag) H.ah S.es rs=true:=by
  intro rs;induction rs with
  |nil=>intro _ _;rfl
  |cons r rs D=>grind[MH,Wf]
 rw[this _ h2 A]
theorem aIM:∀{l:dM} {i:R} {S u:jf} {T T':aM} {H H':aj},kx P ng aae n aag bef l i S T H=O (u,T',H')->gv P ng aae n aag l T H=O (T',H'):=by grind[Iv]
theorem Qa{H:aj}(A:dK o.op=1)(u:cn aag T o=V)(y:bR P ng aae T H0 o.op=O r)
 (h:∃T',wJ P ng aae n H0 aag l (dZ n T o.dst r.1) H=O (T',H')/\Rqq T'):∃T',wJ P ng aae n H0 aag (o::l) T H=O (T',H')/\Rqq T':=by
 grind[wJ,UB]
theorem RO{H:aj}(u:Nat.beq (dK o.op) 1=W)(y:cn aag T o=V)(A:bR P ng aae T H o.op=O r)
 (h:∃T',wJ P ng aae n H0 aag l (dZ n T o.dst r.1) r.2=O (T',H')/\Rqq T'):∃T',wJ P ng aae n H0 aag (o::l) T H=O (T',H')/\Rqq T':=by
 unfold wJ UB;rcases Na o.op with e|e|e|e
 .grind
 .rw[e]at u;cases u
 .grind
 grind
def RM{H:aj}(h:Rqq T):∃T',wJ P ng aae n H0 aag [] T H=O (T',H)/\Rqq T':=⟨T,Q,h⟩
theorem atr:ee l t=V↔∀o∈l,o.dst≠O t:=by
 induction l with
 |nil=>exact⟨λ _ o h=>bk,λ _=>rfl⟩
 |cons a l u=>grind[ee,Nat.beq_refl,Nat.eq_of_beq_eq_true]
theorem Pr{aag:dV}(D:k<aag.size)(h:ee aag.toList t=true):ee (qj k aag).toList t=true:=by
 rw[atr]at h⊢;intro o J;obtain⟨j,K⟩:=aKd.1 J;have y:j<(qj k aag).size:=by grind
 rw[z8]at y;have u:=VO D y;have F:=Lz D (AY u);rw[OR]at F;have A:=by simpa using K
 rw[F]at A;cases A;exact h aag[yC k j] (aKe u)
def aIF{aag:dV}(u:aag.size=14)(h:ee aag.toList t=true):ee (kz aag).toList t=true:=Pr LQ (Pr LQ (Pr (by rw[z8];omega) (Pr aa h)))
theorem ZJ{P:aA}{n:R}{aae:bg}{aag:dV}{H:aj}{d:mi}(h:kK P ng aae n aag T H d=O (T',H')):∀t,ee aag.toList t=V->ai T' t=ai T t:=λ t u=>by
 rcases adb h with h|⟨y,h⟩
 .exact DY h t u
 exact DY h t (aIF (ZI y).2.1 u)
theorem Sq{H:aj}{Qqq:nv}{id:R}{aag:dV}(Rqq:Ju)(wf:WF H)(u:DW (eA aag) aag.toList 0 [] [] W=V)(h:∃T',wJ P ng aae n H aag.toList aag.toList T H=O (T',H')/\Rqq T')(y:∀T',Rqq T'->(∀t,ee aag.toList t=V->ai T' t=ai T t)->Qqq .normal T' H'):bB P ng aae n (.region id aag V) T H Qqq:=by grind[aE8,lR,ZJ]
end
end
end Go.Abs
