/- CriticalMonotone: for every draft and every bool that can be read the law returns true, and the arguments read afterwards as they read before. Conditions: those of the given row alone (each slice that is read takes at most 2^47 - 4096 bytes). -/
import Derived.Test.YtkhnencepibcpaaGreatR
import Derived.Test.YtkhnencepibcpaaGreatV
import Derived.Test.YtkhnencepibcpaaGreatW
import Derived.Test.YtkhnencepibcpaaGreatRows
import Derived.WalkKit
import Derived.ProofKit
import Derived.OpenShut
import Derived.ReadAgain
set_option linter.all false
set_option maxRecDepth 100000
namespace Go.Proofs.YtkhnencepibcpaaGreat.monotone
open Go.Abs
noncomputable section
open Go.ChangeShapes Go.WideShapes Go.ChangeAt Go.RowKit Go.Deep
def own:ownKnob Tryz.prog.godebug=none:=by kernel_rfl
def ayV:Kids Tryz.prog (·<Tryz.prog.types.size):=kids_rows (by kernel_rfl) (by kernel_rfl)
def aqs:∀t e,t<Tryz.prog.types.size->Tryz.prog.underlying t=some (.slice e)->0<Tryz.prog.cellsOf e:=slices_full_of Tryz.prog (by kernel_rfl)
def aBR:30<Tryz.prog.types.size:=jL (by kernel_rfl)
def lt4:4<Tryz.prog.types.size:=jL (by kernel_rfl)
def amc{H:Type}{enc:TypeId×Value->H}{W A:World}{t:TypeId}{v:Value}{d:DataW H}{p:List MemPlace}(F:t<Tryz.prog.types.size)(y:∀q∈p,q.block<W.heap.size)(M:Below W.heap.size W A)(h:DataW.Trod enc Tryz.prog W 0 (λ _=>true) true t v d p)(D:Nat->Bool)(u:∀q∈p,D q.block=true):
 DataW.Trod enc Tryz.prog A 0 D true t v d p:=by
 obtain⟨n,K⟩:=h;have N:DataW.Trod enc Tryz.prog A 0 (λ _=>true) true t v d p:=⟨n,DataW.trod_carry n _ _ _ K λ q J=>M.same (y q J)⟩;exact N.respare ayV aqs F u
def c22:Tryz.prog.cellsOf 22=1:=by kernel_rfl
def c28:Tryz.prog.cellsOf 28=10:=by kernel_rfl
def c27:Tryz.prog.cellsOf 27=5:=by kernel_rfl
def c30:Tryz.prog.cellsOf 30=12:=by kernel_rfl
def c23:Tryz.prog.cellsOf 23=1:=by kernel_rfl
def c24:Tryz.prog.cellsOf 24=1:=by kernel_rfl
def c25:Tryz.prog.cellsOf 25=1:=by kernel_rfl
def aB1{α:Type}{u:Array α}(h:u.size=12):∃(A y:α) (x:Nat->α),u= #[A,y,x 0,x 1,x 2,x 3,x 4,x 5,x 6,x 7,x 8,x 9]:=by
 obtain⟨l⟩:=u
 match l,h with
 |[A,y,D,M,K,x3,x4,x5,J,F,x8,x9],_=>exact⟨A,y,λ n=>[D,M,K,x3,x4,x5,J,F,x8,x9].getD n D,rfl⟩
section
variable{H:Type}{enc:TypeId×Value->H}{W:World}
def aha{n:Nat}{K J F x3 x4:Value}{y:DataW H×List MemPlace}(h:DataW.trod enc Tryz.prog W 0 (λ _=>true) true n 27 [K,J,F,x3,x4]=some y):
 (∃n y,DataW.trod enc Tryz.prog W 0 (λ _=>true) true n 23 [K]=some y)/\(∃n y,DataW.trod enc Tryz.prog W 0 (λ _=>true) true n 24 [J]=some y)/\(∃n y,DataW.trod enc Tryz.prog W 0 (λ _=>true) true n 25 [F]=some y)/\(∃n y,DataW.trod enc Tryz.prog W 0 (λ _=>true) true n 23 [x3]=some y)/\(∃n y,DataW.trod enc Tryz.prog W 0 (λ _=>true) true n 23 [x4]=some y):=by
 obtain⟨D,m,_,_,_,A,u⟩:=DataW.trod_struct Tryz.underlying27 h;have A:D.length=5:=A
 match D,A with
 |[Y,S,P,N,M],_=>exact⟨⟨m,_,by simpa[c23]using u 0 _ rfl⟩,⟨m,_,by simpa[c24]using u 1 _ rfl⟩,⟨m,_,by simpa[c25]using u 2 _ rfl⟩,⟨m,_,by simpa[c23]using u 3 _ rfl⟩,⟨m,_,by simpa[c23]using u 4 _ rfl⟩⟩
def asJ{v:Value}{base:Nat}{d:DataW H}{p:List MemPlace}(hv:Value.okWide Tryz.prog W .any base 30 v)(h:DataW.Trod enc Tryz.prog W 0 (λ _=>true) true 30 v d p):
 ∃(A u:Value) (x:Nat->Value),v=.agg #[A,u,x 0,x 1,x 2,x 3,x 4,x 5,x 6,x 7,x 8,x 9]/\(∃n y,DataW.trod enc Tryz.prog W 0 (λ _=>true) true n 22 [A]=some y)/\(∃n y,DataW.trod enc Tryz.prog W 0 (λ _=>true) true n 22 [u]=some y)/\∀q,q<10->∃n y,DataW.trod enc Tryz.prog W 0 (λ _=>true) true n (Abs.DE q) [x q]=some y:=by
 obtain⟨cs,rfl,D⟩:=okWide_struct Tryz.underlying30 hv;obtain⟨A,u,x,rfl⟩:=aB1 (D.trans c30);obtain⟨N,h⟩:=h;obtain⟨K,m,_,_,_,F,J⟩:=DataW.trod_struct Tryz.underlying30 h;have F:K.length=3:=F
 match K,F with
 |[y0,y1,y2],_=>
  have g0:DataW.trod enc Tryz.prog W 0 (λ _=>true) true m 22 [A]=some y0:=by simpa[c22,Value.cells]using J 0 _ rfl
  have g1:DataW.trod enc Tryz.prog W 0 (λ _=>true) true m 22 [u]=some y1:=by simpa[c22,Value.cells]using J 1 _ rfl
  have g2:DataW.trod enc Tryz.prog W 0 (λ _=>true) true m 28 [x 0,x 1,x 2,x 3,x 4,x 5,x 6,x 7,x 8,x 9]=some y2:=by simpa[c28,Value.cells]using J 2 _ rfl
  obtain⟨P,k,_,_,_,hz,M⟩:=DataW.trod_array Tryz.underlying28 g2
  match P,hz with
  |[z0,z1],_=>
   have a0:DataW.trod enc Tryz.prog W 0 (λ _=>true) true k 27 [x 0,x 1,x 2,x 3,x 4]=some z0:=by simpa[c27]using M 0 (by decide)
   have a1:DataW.trod enc Tryz.prog W 0 (λ _=>true) true k 27 [x 5,x 6,x 7,x 8,x 9]=some z1:=by simpa[c27]using M 1 (by decide)
   obtain⟨u0,u1,u2,u3,u4⟩:=aha a0;obtain⟨w0,w1,Z,Y,S⟩:=aha a1;refine⟨A,u,x,rfl,⟨m,_,g0⟩,⟨m,_,g1⟩,λ q hq=>?_⟩
   match q,hq with
   |0,_=>exact u0
   |1,_=>exact u1
   |2,_=>exact u2
   |3,_=>exact u3
   |4,_=>exact u4
   |5,_=>exact w0
   |6,_=>exact w1
   |7,_=>exact Z
   |8,_=>exact Y
   |9,_=>exact S
end
set_option maxRecDepth 100000 in
def atD(H:Type)(enc:TypeId×Value->H)(W:World)(base:Nat)(args:Array Value)(ds gs:List (DataW H))(u:List MemPlace)
 (A:∀(j:Nat) t v,Tryz.f3.params[j]? =some t->args[j]? =some v->Value.okWide Tryz.prog W .any base t v)
 (S:DataW.Whole enc Tryz.prog Tryz.f3.params.toList Rows.criticalMonotoneSpec.vars false W args.toList ds gs u):
 Calls Tryz.prog 3 args W λ e W'=>∃v,e=.returned v/\Rows.criticalMonotoneSpec.post enc Tryz.prog Tryz.f3 false true false false W args v W':=by
 have J:=S;have D:∀q∈u,q.block<W.heap.size:=λ q y=>S.lt q y
 obtain⟨p,q,K,hV,rfl,ac,ab⟩:=S;have hA:DataW.TrodAll enc Tryz.prog W 0 (λ _=>true) true Tryz.f3.params.toList args.toList ds p:=K;rw[Tryz.params3]at hA A;obtain⟨Z,vs0,d0,ae,M,q0,P,rfl,rfl,h0,r0⟩:=trodAll_cons hA;obtain⟨Y,aa,d1,ad,F,q1,rfl,rfl,rfl,h1,r1⟩:=trodAll_cons r0;obtain⟨rfl,rfl,rfl⟩:=trodAll_nil r1;obtain rfl:args= #[Z,Y]:=by cases args;simp_all
 obtain⟨rfl,rfl⟩:=trodVars_none hV;clear K;simp only[ou]at J D;obtain⟨c0,c1,x,rfl,⟨n0,y0,t0⟩,⟨n1,y1,t1⟩,tq⟩:=asJ (A 0 30 Z rfl rfl) h0;obtain⟨fb,rfl⟩:=okWide_bool Tryz.underlying4 (A 1 4 Y rfl rfl);refine(Abs.atm Abs.aGe Abs.ab8 (fb:=fb) t0 t1 tq).mono λ e W' ⟨he,N⟩=>?_
 subst he;refine⟨_,rfl,[d0,d1],[],M++F,[],M++F,[],J,?_,?_,rfl,World.keptBut_mono (λ q y=>⟨y,.inr (.inl y)⟩) (N.frame (·∈M++F)),λ h=>by cases h⟩;.exact trodAll_cons_mk (shut_bool Tryz.underlying4 _) trodAll_mk0
 .exact⟨M,F,amc aBR (λ q y=>D q (UH _ y)) N h0 _ (λ q y=>by simpa using D q (UH _ y)),⟨F,[],amc lt4 (λ q y=>D q (ad7 _ y)) N h1 _ (λ q y=>by simpa using D q (ad7 _ y)),rfl,by simp⟩,rfl⟩
set_option maxRecDepth 100000 in
def lifted(os:Os)(u:os.Started)(H:Type)(enc:TypeId×Value->H):
 ReturnsInHanded {} Tryz.checked os 3 .any (Rows.criticalMonotoneSpec.pre6 enc Tryz.prog Tryz.f3 Rows.criticalMonotoneRow.domain false) (Rows.criticalMonotoneSpec.post enc Tryz.prog Tryz.f3 false true false false):=by
 refine returnsInHanded_of_change (C:=Tryz.checked) own u (by kernel_rfl) Tryz.func3 (ChangeSpec.witness6 (enc:=enc) (C:=Tryz.checked) false ⟨#[],#[.agg #[.slice none 0 0,.slice none 0 0,.slice none 0 0,.slice none 0 0,.int .u64 0,.slice none 0 0,.slice none 0 0,.slice none 0 0,.slice none 0 0,.int .u64 0,.slice none 0 0,.slice none 0 0],.bool false],[]⟩ 8 (by kernel_rfl) (by kernel_rfl) (by kernel_rfl) (by kernel_rfl)) ?_;intro W base args ds J y A F D _;exact atD H enc W base args ds J y A F
def auU:Tryz.pinned.checked.prog.funcNamed Rows.criticalMonotoneRow.func=some 3:=by kernel_rfl
theorem card:Rows.CriticalMonotoneSaid:=
 OpenClaim.holds_of_wide 3 Tryz.f3 rfl rfl rfl rfl rfl rfl rfl ⟨rfl,rfl,rfl,rfl,rfl⟩ rfl rfl rfl rfl rfl auU Tryz.func3 azS
  (jL (by kernel_rfl)) (by unfold Func.isWrapper;first|(rw[aY (by decide+kernel)];kernel_rfl)|(rw[aR (by decide+kernel)];exact⟨rfl,rfl⟩))
  (λ os u H enc _=>lifted os u H enc)
end
end Go.Proofs.YtkhnencepibcpaaGreat.monotone
