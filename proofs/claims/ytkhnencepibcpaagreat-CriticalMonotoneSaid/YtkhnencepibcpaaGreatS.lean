/- Patterns of calls. -/
import Derived.Test.YtkhnencepibcpaaGreatB
import Derived.Test.YtkhnencepibcpaaGreatD
import Derived.Test.YtkhnencepibcpaaGreatG
set_option linter.all false
set_option maxRecDepth 100000
set_option maxHeartbeats 100000000
open Bool renaming rec->vi,false->W,true->V
open Go.Lib renaming compact->aat,keeps->ais
open List renaming filter_cons->avX,range->vv,rec->acB
open Nat renaming beq->gr,ble->th
open Option renaming rec->DT,none->X,some->O
open _root_ renaming Int->U,Nat->R,Option->gw,rfl->Q
namespace Go.Abs
noncomputable section
open Go Go.Proofs
variable{args:aF}{l:aK}{r:xe}{tab:dG}
section
variable{S:uo}{ng:R}{p:Ay}
def leI(a b:U):Bool:=match a,b with
 |.ofNat a,.ofNat b=>th a b
 |.negSucc _,.ofNat _=>V
 |.ofNat _,.negSucc _=>W
 |.negSucc a,.negSucc b=>th b a
def ai1{a b:U}:leI a b=V↔a<=b:=by cases a<;>cases b<;>simp[leI]<;>omega
def ET(x:U)(l:aK):aK:=acB (motive:=λ _=>aK) [x] (λ y l u=>vi (motive:=λ _=>aK) (y::u) (x::y::l) (leI x y)) l
def SX(l:aK):aK:=acB (motive:=λ _=>aK) [] (λ x _ u=>ET x u) l
def afN{x y:U}:ET x (y::l)=if x<=y then x::y::l else y::ET x l:=by
 show vi (motive:=λ _=>aK) (y::ET x l) _ _=_;cases h:leI x y;.rw[aR (λ u=>by rw[ai1.2 u]at h;cases h)]
 rw[aY (ai1.1 h)]
def aa4{x:U}:∀{l:aK},(ET x l).Perm (x::l)
 |[]=>apV _
 |y::l=>by
  rw[afN];split;.exact apV _
  exact((aa4).cons y).trans (List.Perm.swap x y l)
def ayq{x z:U}(h:z∈ET x l):z=x\/z∈l:=cg.1 ((aa4).mem_iff.1 h)
def afu{x:U}:∀{l:aK},l.Pairwise (·<=·)->(ET x l).Pairwise (·<=·)
 |[],_=>List.pairwise_singleton _ _
 |y::l,h=>by
  rw[afN];obtain⟨h1,h2⟩:=apW.1 h;split
  .rename_i A
   exact apW.2 ⟨λ z u=>by
    rcases cg.1 u with rfl|u
    .exact A
    exact apQ A (h1 z u),h⟩
  exact apW.2 ⟨λ z u=>by
   rcases ayq u with rfl|u
   .omega
   exact h1 z u,afu h2⟩
def apk:∀{l:aK},(SX l).Perm l
 |[]=>apV _
 |x::l=>(aa4).trans (apk.cons x)
def af0:∀{l:aK},(SX l).Pairwise (·<=·)
 |[]=>List.Pairwise.nil
 |x::l=>afu af0
def arS(l:aK):SX l=qp l:=(apk.trans (List.mergeSort_perm l _).symm).eq_of_pairwise (λ a b _ _ h1 h2=>Int.le_antisymm h1 h2) af0 ((List.pairwise_mergeSort (λ a b c h1 h2=>by simp at*;omega) (λ a b=>gD) l).imp λ h=>jL h)
def vx(l:aK):Ay->aK:=acB (motive:=λ _=>Ay->aK) (λ _=>[]) (λ x _ u p=>DT (motive:=λ _=>aK) (x::u (O x)) (λ q=>vi (motive:=λ _=>aK) (x::u (O x)) (u (O x)) (CS q x)) p) l
def aEx:vx [] p=[]:=rfl
def YB{x:U}:vx (x::l) p=if p=O x then vx l (O x)else x::vx l (O x):=by
 cases p;.rfl
 rename_i q;show vi (motive:=λ _=>aK) (x::vx l _) (vx l _) _=_;cases h:CS q x
 .have u:∀z,CS z z=true:=λ z=>by cases z<;>simp[CS]
  rw[aR (λ e=>by rw[tO e,u]at h;cases h)]
 rw[Vi h,aY Q]
def aoO{x:U}:∀{l:aK} {p:Ay},vx (l++[x]) p=vx l p++(if(l.getLast?.or p)=O x then[]else[x])
 |[],p=>by show vx [x] p=[]++(if p=O x then[]else[x]);rw[YB,aEx,mG]
 |y::l,p=>by
  rw[AX,YB,YB,aoO]
  have u:((y::l).getLast?.or p)=(l.getLast?.or (O y)):=by
   cases l;.rfl
   rename_i z l;rfl
  rw[u];split<;>simp
def asV{x:U}:aat (l++[x])=aat l++(if l.getLast?=O x then[]else[x]):=by
 unfold aat Lib.compactUpTo;rw[kQ,UW,apO,List.filter_append,zD];have u:∀j,j<l.length->(l++[x]).toArray[j]! =l.toArray[j]! :=λ j A=>by simp[A,List.getElem_append_left,jc A]
 have y:(l++[x]).toArray[l.length]! =x:=aw
 congr 1
 .have h1:(vv l.length).filter (ais (l++[x]).toArray)=(vv l.length).filter (ais l.toArray):=by
   apply List.filter_congr;intro j A;have A:=Ox.1 A;unfold ais;rw[u j A];by_cases h0:j=0;.simp[h0]
   rw[u (j- 1) aa]
  rw[h1];apply mH;intro j A;exact u j (Ox.1 (He.1 A).1)
 by_cases h0:l=[];.subst h0;simp[ais]
 have D:=List.length_pos_iff.2 h0;have J:l.getLast?=O (l.toArray[l.length- 1]!):=by rw[List.getLast?_eq_getElem?];simp[eg (aa:l.length- 1<l.length)]
 have F:ais (l++[x]).toArray l.length=decide (x≠l.toArray[l.length- 1]!):=by unfold ais;rw[y,u _ aa];simp[h0]
 rw[J];by_cases hx:x=l.toArray[l.length- 1]!;.rw[aY (by rw[<-hx])];rw[avX,F,aR (by simp[<-hx])];rfl
 rw[aR (λ e=>hx (tO e).symm)];rw[avX,F,aY (jR hx)];simp[y]
def aBw(l:aK):vx l X=aat l:=by
 have y:∀n,∀l,l.length=n->vx l X=aat l:=by
  intro n;induction n with
  |zero=>intro l u;obtain rfl:=mF u;rfl
  |succ n D=>
   intro l u;have A:l≠[]:=λ e=>by rw[e]at u;cases u
   rw[<-List.dropLast_concat_getLast A,aoO,asV,D _ gD,Option.or_none]
 exact y _ l rfl
def acH(a:au)(r:gw aK):gw aK:=match a,r with
 |.int .i64 n,O r=>O (n::r)
 |_,_=>X
def PY(l:aF):gw aK:=acB (motive:=λ _=>gw aK) (O []) (λ a _ u=>acH a u) l
def aCr{a:au}{x:gw aK}{u:aK}(h:acH a x=O u):∃n r,a=ao n/\x=O r/\u=n::r:=by unfold acH at h;split at h<;>cases h;exact⟨_,_,Q,Q,Q⟩
def Lk:∀{l:aF} {u:aK},PY l=O u->l=gZ u
 |[],u,h=>by cases h;rfl
 |a::l,u,h=>by obtain⟨n,r,rfl,y,rfl⟩:=aCr (h);rw[Lk y];rfl
def Vw(H:aj):aF->kO
 |[.aq]=>O (.tuple [],H)
 |[.slice v 0 n X]=>match H.ah.get v with
  |O r=>match gr r.sz 1,aQ H.ah.get v 0 n with
   |V,O y=>match PY y with
    |O u=>match th u.length 1000,write H v 0 (gZ (SX u))with
     |V,O A=>O (.tuple [],A)
     |_,_=>X
    |X=>X
   |_,_=>X
  |X=>X
 |_=>X
def Yx(H:aj):aF->kO
 |[.aq]=>O (.aq,H)
 |[.slice v 0 n X]=>match H.ah.get v with
  |O r=>match gr r.sz 1,aQ H.ah.get v 0 n with
   |V,O y=>match PY y with
    |O u=>match th u.length 1000,write H v 0 (gZ (vx u X++List.replicate (u.length-(vx u X).length) 0))with
     |V,O A=>O (.slice v 0 (vx u X).length X,A)
     |_,_=>X
    |X=>X
   |_,_=>X
  |X=>X
 |_=>X
def X7(H:aj):aF->kO
 |[.agg _,.ptr u off]=>match aQ H.ah.get u off 38 with
  |O y=>match y[8]?with
   |O c=>match lenOf c with
    |O 0=>O (ao 0,H)
    |_=>X
   |X=>X
  |X=>X
 |_=>X
def aas(H:aj):aF->kO
 |[.func f [] [.ptr u off]]=>match gr f 382,aQ H.ah.get u off 1 with
  |V,O [c]=>match lenOf c with
   |O n=>match er H.ah.get 1 n c with
    |O A=>match PY A with
     |O []=>O (.aq,H)
     |O (z::y)=>match th (z::y).length 1000 with
      |V=>O (.slice H.ae 0 (z::y).length X,alloc H (gZ (z::y)) W 1)
      |W=>X
     |X=>X
    |X=>X
   |X=>X
  |_,_=>X
 |_=>X
def bK:bg:=λ f args H=>match gr f 217 with
 |V=>Vw H args
 |W=>match gr f 311 with
  |V=>Yx H args
  |W=>match gr f 237 with
   |V=>X7 H args
   |W=>match gr f 381 with
    |V=>aas H args
    |W=>X
def aIW{H:aj}(h:Vw H args=O r):kW 217 args H r:=by
 unfold Vw at h;split at h;.cases h;exact .NL
 .split at h<;>try cases h
  rename_i r D;split at h<;>try cases h
  rename_i K h1 y;split at h;.rename_i J A;split at h<;>cases h;rename_i F u;rw[Lk A]at y;rw[arS]at u;exact .sort y ⟨_,D,cI h1⟩ (Hc F) u
  cases h
 cases h
def aya{H:aj}(h:Yx H args=O r):kW 311 args H r:=by
 unfold Yx at h;split at h;.cases h;exact .Ln
 .split at h<;>try cases h
  rename_i r D;split at h<;>try cases h
  rename_i K h1 y;split at h;.rename_i J A;split at h<;>cases h;rename_i F u;rw[Lk A]at y;rw[aBw]at u⊢;exact .comp y ⟨_,D,cI h1⟩ (Hc F) u
  cases h
 cases h
def ax4{H:aj}(h:X7 H args=O r):kW 237 args H r:=by
 unfold X7 at h;split at h
 .split at h
  .rename_i D y;split at h;.rename_i c A;split at h<;>cases h;rename_i u;exact .fill y A u
   cases h
  cases h
 cases h
def aFi{H:aj}(h:aas H args=O r):kW 381 args H r:=by
 unfold aas at h;split at h<;>try cases h
 split at h<;>try cases h
 rename_i c J D;obtain rfl:=cI J;split at h<;>try cases h
 rename_i n A;split at h<;>try cases h
 rename_i M u;split at h;.rename_i y;cases h;rw[Lk y]at u;exact .Ga D u A
 .rename_i z K y;split at h<;>cases h;rename_i F;rw[Lk y]at u;exact .G7 D u A (Hc F) aw
 cases h
def akx{f:ck}{H:aj}(h:bK f args H=O r):kW f args H r:=by
 unfold bK at h;split at h;.rename_i e;obtain rfl:=cI e;exact aIW h
 split at h;.rename_i e;obtain rfl:=cI e;exact aya h
 split at h;.rename_i e;obtain rfl:=cI e;exact ax4 h
 split at h;.rename_i e;obtain rfl:=cI e;exact aFi h
 cases h
def aEl:jV af ng bK:=λ f args H v A h Bqq ρ w y s wf u hx=>ail (akx h) Bqq ρ w y s wf u hx
def awc:ib bK:=λ f args H v u h=>afR (akx h)
def qk1(a b:au):Bool:=match a,b with
 |.bool x,.bool y=>x==y
 |.int _ x,.int _ y=>CS x y
 |.slice _ _ n _,.slice _ _ m _=>gr n m
 |.slice _ _ _ _,.aq=>W
 |.aq,.slice _ _ _ _=>W
 |_,_=>V
def qkL(f:au->au->Bool)(l:aF):aF->Bool:=acB (motive:=λ _=>aF->Bool) (λ _=>V) (λ a _ u m=>match m with|[]=>V|b::m=>match f a b with|V=>u m|W=>W) l
def qk(a b:au):Bool:=match a,b with
 |.agg A,.agg u=>qkL qk1 A u
 |x,y=>qk1 x y
def OV(tab:dG):QH:=λ f args H=>acB (motive:=λ _=>cR) X (λ S _ u=>vi (motive:=λ _=>cR) u (vi (motive:=λ _=>cR) u (DT (motive:=λ _=>cR) u (λ v=>O v) (JT S args H)) (qkL qk S.args args)) (gr S.f f)) tab
def aGa{f:ck}{H:aj}{v:au}(h:OV (S::tab) f args H=O v):OV tab f args H=O v\/apv [S] f args H=O v:=by
 have h:vi _ _ _=O v:=h;cases y:gr _ f;.rw[y]at h;exact .inl h
 rw[y]at h;cases A:qkL qk _ args;.rw[A]at h;exact .inl h
 rw[A]at h;cases u:JT S args H;.rw[u]at h;exact .inl h
 rename_i x;rw[u]at h;refine .inr ?_;show vi X _ _=O v;rw[y,u];exact h
def ae5:∀{tab:dG},(∀S∈tab,Jw af ng S)->Yl af ng (OV tab)
 |[],_=>nofun
 |S::tab,u=>λ f args H v h=>by
  rcases aGa h with h|h
  .exact ae5 (λ Xqq y=>u Xqq (cV _ y)) f args H v h
  exact ahC (λ Xqq y=>(cJ.1 y)▸u S (dJ ..)) f args H v h
def P1(tab:dG):bg:=N9 af 0 (NV bK (KX (OV tab))) 1000
def aoj(u:xW af)(h:∀S∈tab,Jw af 0 S):jV af 0 (P1 tab):=aex (arv aEl (aza (ae5 h))) (aJq awc aCo) u _
def aFf(u:xW af)(h:∀S∈tab,Jw af 0 S)(h1:S.ok 0=V)(h2:QM S.res (P1 tab S.f S.args S.H)=V):Jw af 0 S:=by obtain⟨A,y⟩:=ai6 h2;exact⟨h1,_,A,aoj u h,y⟩
end
noncomputable section
def Mr:R->DP au
 |0=>MS .aq
 |n+1=>λ s=>match dn s with
  |(0,s)=>(.bool W,s)
  |(1,s)=>(.bool V,s)
  |(2,s)=>fT (.int .i64) dz s
  |(3,s)=>fT (.int .u64) dz s
  |(4,s)=>fT (λ l:bG=>.str (by8 l)) (dl dn) s
  |(5,s)=>(match dz s with|(d,s)=>gm (gm (fT (λ r o l=>.slice r o l X) (MS ((s.m:U)+d).toNat)) dn) dn ⟨s.l,((s.m:U)+d).toNat,s.q⟩)
  |(6,s)=>(.aq,s)
  |(7,s)=>fT .agg (dl (Mr n)) s
  |(_,s)=>fT .tuple (dl (Mr n)) s
def drw:DP (R×Row):=λ s=>gm (fT (λ z c=>(s.q,pr z c)) dn) (dl (Mr 9)) ⟨s.l,s.q,s.q+1⟩
def dsm:DP uo:=λ s=>match gm (fT (λ a r l=>⟨0,a,l,Nat.add 2 l.length,r⟩) (dl (Mr 9))) (Mr 9) ⟨s.l,2,2⟩with
 |(h,s)=>fT h (dl drw) s
def dW:List jQ:=cv (Vo (DF "CAAAuTtP2BF.vKuyuTA2CEvvCu6BCooCCBtfyKutBtE2DAAAAAAAAAAAAAAtEvZAAHCDu6yMuxBA8t9CEvPvY8w6v8o.oG.5G51E.Bov0w4vSths5yXtlt6tgu90tEtk.teEGE1B.uVvzF6tAtAwOt0wPvByeu88tMt1vf3v6tHwQt0tByg1wRub3qCB9Cu4t9ACptg52C.HDu6uUvaq5tMAtRwSEyiwDwTvgyktQDuytEtDtEuB8v755w3Eypt9AAyrwXZPtAGGGuuou3u3vythvRuwCG6tQt0tCEo6tFvKwCCDBVytwZywwayxwKtit7Sv9vOwcyytCz09EEYRZKEHtCu2t4BvOFtipv3w7tjAyPAvSA2uYu3wHvV9uZvQz46BtRt6wdvhDva0tnuDucv7wNt5wN.tIudRv92vjwetFZLYTBvkDDCtAu5vwutut9otOu5y8t4AAyGvzADHJvWvLHF6pvVtf.t5yTAv5w4wFth6tiwLviZBurZZQvjuOEFAHvrABDtBu211tBtBHVBEDGw1w2FKw3tevTtfyD.yFvqyH899Eu83tgu7uUBIySthIuvvOwDveWwLvJvrthAGwgTuPuQvDZZIuOvEuOZwiBFAB1.AwjIy0tMGu2JJt0vut4t4vNtEAAvLw.yCMuSw0B9v.tiuzu2vMuxvXw5FIsw8w9v1Ftmt9t5yOGyRCyUvuwBvbyY.yZVBv25vdBt0wA1vVuyvAuAyaLwMwAycthtOua5uXyfVuUvWvww7u9tFyhB..u9tQylwWymtGv6vZz2uC8YwfnMuPwhavJvHQuRwkXwlFwmuswnuswovEwpRwquQwrvFwstewtvswuuOwvXwwHwxuPwyu1wzZAAx.tDx0vGx1Xx2Qx3urx4vlx5vtx61x7tNx8Yx9AxAvmxBOxCu1xDurxEuQxFtexGvGxHuRxIYxJSxKuPxLvnxMvlxNusxOZxPvkxQCxRZxSUxTvGxUvHxVu1xWvFxXuPxYvFxZvDxat9xb5xc8xdvoxeMxfvDxguQxhtNxiusxjvnxkurxlu1xmvmxnvIxoOxpvoxqTxruQxsu1xtuvxutMxv9xwvpxxvqxyu1xz9AAy.tMvxCy1Ky21y3tBy4uSy5vxy6oy7uwvpAy9ZyAOyBvEvQoEDyEZvUtguSvNvKvMyI1yJuxvPvMyLw6Su7yNtCvHKv4vLyQv2FGDvyuRCGu6yVwEyWw5vctetBtkuA.stlybw8t2vPydwCtjvIvSv1.V5wUtEtPyj4wVtGSuWwGuWynvIyoJtCwIyqFwGu7yswJtCtjyu8yvwYwK12AwBuWyzwbAAz.wJuXwIz1J1.z3G") 29) (by refine⟨?_,?_⟩;rotate_left;(conv=>lhs;reduce;(try simp only[Int.reduceOfNat,Int.reduceNegSucc])))
def eT(f:R)(d:uo):uo:=⟨f,d.args,d.rows,d.ae,d.res⟩
abbrev eS(f:R)(s:String)(h:{l:List Char//s=String.ofList l}:=by exact⟨_,rfl⟩):uo:=eT f (dec dW dsm h.1)
def A0:dG:=[]
def A1:dG:=eS 197 "t8Gt5tp"::eS 197 "t8Et5uf"::eS 197 "v89Etp"::eS 197 "t1v7tp"::eS 196 "7ueB8E"::eS 197 "t8tAtp"::eS 197 "t8tDuf"::eS 197 "t8tkuf"::eS 197 "t1wZuf"::eS 196 "7ueBtP"::eS 239 "7uABHvB"::eS 284 "t8Cueut"::eS 71 "vhEtoEvYwd"::eS 19 "75wY6VFWKu7uWtQtF"::eS 66 "Ctmv3vXuztSPuC"::eS 132 "t1wEuztSLv9"::eS 127 "7v4tBtAu2v5"::eS 137 "wFAuytetR"::eS 197 "t8GtktR"::eS 197 "t8EtktR"::eS 197 "v89tetR"::eS 197 "t1.tktR"::eS 196 "7uer"::eS 66 "CtmvRu5GtSKu9"::eS 132 "t1v4uSv2ou5GtSHvB"::eS 71 "vCtABp"::eS 127 "7v4tCtSHvB"::eS 71 "vC1tMtftg"::eS 139 "8vt"::eS 37 "Bu6It5A.tR"::A0
def A2:dG:=eS 202 "7vf2EtjuYtqwTuFKu9t.rugt2tJtVtWt.t3"::eS 146 "CvJvs8ux"::eS 318 "CuUw1vi1u2w0uwuUu7BKtQtQ"::eS 238 "uEuEEIuEv1EA"::eS 287 "tT2E5tUug0"::eS 197 "t8Gu8uf"::eS 197 "t8vZtp"::eS 197 "v89Gtp"::eS 197 "t1.u8tp"::eS 196 "7ueB8G"::A1
def A3:dG:=eS 71 "uhtotuv6tD"::eS 74 "tX2EtjuYtqtr2EtjuYtqtsPtKugt2t6u4t5u8tVttt.rugt2tJtVtWt.t3"::eS 287 "tT2tOtUtJ0"::eS 71 "vhtOtMEvYtg"::eS 238 "uEuECIuEv1."::A2
def A4:dG:=eS 287 "tTs1tUui"::eS 239 "7t0s1BH6va"::eS 227 "7tls1sIotPL6tn"::eS 71 "uh1tMtutg"::eS 287 "tTtHtUtYtD0"::A3
def A5:dG:=eS 74 "tXtZtrtZtsLtKtYtDq3u4CtDquDtttvrtYtDqujtWtvt3"::A4
def A6:dG:=eS 40 "uGtHuHtYtD0tvr"::A5
def A7:dG:=eS 71 "uhtotuv6uB"::A6
def A8:dG:=eS 287 "tTtHtUtYuB0"::A7
def A9:dG:=eS 74 "tXtZtrtZtsLtKtYuBq3u4t5oquDtttwrtYuBqujtWtwt3"::A8
def VY:dG:=eS 40 "uGtHuHtYuB0twr"::A9
def Xm:dG:=eS 71 "uhtotuuk"::VY
def Zf:dG:=eS 287 "tTtHtU3uk0"::Xm
def A13:dG:=eS 74 "tXtZtrtZtsLtK3ukq3u4v7quDtttxr3ukqujtWtxt3"::Zf
def Xa:dG:=eS 40 "uGtHuH3uk0txr"::A13
def Xd:dG:=eS 71 "vCtotfuct9"::Xa
def A16:dG:=eS 287 "wOuAtUti0"::Xd
def Xb:dG:=eS 74 "tXtyuItrtyuItsHtKpuct9t7uJt4ttuTtEpuct9t7uJt4tW4"::A16
def W4:dG:=eS 40 "uGtyuHpuct90uTtE"::Xb
def A19:dG:=eS 71 "uhtotuul"::W4
def A20:dG:=eS 287 "tTtHtU3ul0"::A19
def Z1:dG:=eS 74 "tXtZtrtZtsLtK3ulq3uutfEquDtttzr3ulqujtWtzt3"::A20
def A22:dG:=eS 40 "uGtHuH3ul0tzr"::Z1
def Yj:dG:=eS 71 "vCtotfum"::A22
def A24:dG:=eS 287 "tTtywP6uVum0"::Yj
def Vt:dG:=eS 74 "tXtyuItrtyuItsHtKpumt7puu9.t7t4tttLrpumt7uJt4tWtLt3"::A24
def VD:dG:=eS 40 "uGtyuHpum0tLr"::Vt
def U2:dG:=eS 20 "GtmvbvRu5GtS.vcuvPwa"::VD
def YI:dG:=eS 239 "7taBGv5"::U2
def ZC:dG:=eS 231 "tIuZtO2uRDtGubTv9tJt2t."::YI
def A30:dG:=eS 318 "CwVviwWwbuFAtFtF"::ZC
def ZP:dG:=eS 231 "tIuZtN2uRDtGubuKt6t2t."::A30
def A32:dG:=eS 74 "tX2wStNuatOwUwcu32tqtjuYtOtCvgStKtJt2t6tVB8B4tFt.tJt2ugtVBtPt.r"::ZP
def ZY:dG:=eS 40 "u.uZtOu0tJ0t."::A32
def A34:dG:=eS 231 "tItbtcuKtntv"::ZY
def Xq:dG:=eS 202 "7vfs1w9AvQwMuXuFHtKtntduDB8B4"::A34
def A36:dG:=eS 227 "7tlsGsIotPK6td"::Xq
def A37:dG:=eS 172 "t1tat0stAH6vTtu"::A36
def XW:dG:=eS 231 "untcuotdtv"::A37
def A39t:dG:=eS 40 "u.tbu0uitv"::XW
def Wv:dG:=eS 231 "tItbtcuKtntw"::A39t
def VF:dG:=eS 231 "untcuotdtw"::Wv
def A42:dG:=eS 40 "u.tbu0uitw"::VF
def YE:dG:=eS 231 "tItbtcuKtntx"::A42
def A44:dG:=eS 231 "untcuotdtx"::YE
def X1:dG:=eS 40 "u.tbu0uitx"::A44
def A46:dG:=eS 40 "u.tG1u0ti0t4"::X1
def Wb:dG:=eS 231 "tItbtcuKtntz"::A46
def Wz:dG:=eS 231 "untcuotdtz"::Wb
def A49:dG:=eS 40 "u.tbu0uitz"::Wz
def ZU:dG:=eS 231 "tItG15tlvdubuouJtL"::A49
def A51:dG:=eS 231 "tItGG5tlvdubQv5v.uVt7tL"::ZU
def W6:dG:=eS 40 "u.tG1u0ti0tL"::A51
def YD:dG:=eS 153 "Ctmv3uSw.u5GtSK6v0"::W6
def Yy:dG:=eS 20 "Gtmvbv3vXuztStkveVAwX"::YD
def A55:dG:=eS 202 "7uLup2tNuatquMuFOuC4t6t2tJtVt30"::Yy
def Yr:dG:=eS 74 "t1uLup2tNuatquMuLu32tNuatquMveXCuC4t6t2tJtVt30tFt.t6t2t6u4t5u8tVt3t.BtP"::A55
def Wi:dG:=eS 40 "uNuZtNuqt64t."::Yr
def VV:dG:=eS 287 "vAtat0sGt0uX.J6vTtu4"::Wi
def Wg:dG:=eS 231 "unwRupwHuKtd4"::VV
def Vu:dG:=eS 202 "7uLupsGwQuMuFMuC4tdujt30"::Wg
def Zs:dG:=eS 40 "uNuduq34tv"::Vu
def A62:dG:=eS 40 "uNuduq34tw"::Zs
def Xk:dG:=eS 40 "uNuduq34tx"::A62
def A64:dG:=eS 40 "uNuduq34tz"::Xk
def A65:dG:=eS 287 "vAtatat0uX.J6vU4"::A64
def Zw:dG:=eS 113 "Fu6uAtauAvcuvK6uVuT8B"::A65
def YC:dG:=eS 74 "t1uLuptBuIuMuLu3tBuIuMvgOuC4pt7uJ40tFtLpt7puu9.t74tLBtP"::Zw
def Wn:dG:=eS 40 "uNtGGwev0v.uV4tL"::YC
def A69:dG:=eS 169 "DtmvWw2uwtltC5.Pu9uJ"::Wn
def WM:dG:=eS 287 "vAtatat05tAI6vUt4"::A69
def Y2:dG:=eS 18 "t15v29FVMthGvNt5uFuOvvVFWKu7uWtQv0v.tQ"::WM
def bm(l:dG):Prop:=∀S∈l,Jw af 0 S
def ru0:bm []:=λ _ h=>bk
end
end
end Go.Abs
