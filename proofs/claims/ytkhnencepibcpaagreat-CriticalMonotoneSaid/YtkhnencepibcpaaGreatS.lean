/- Patterns of calls. -/
import Derived.Test.YtkhnencepibcpaaGreatB
import Derived.Test.YtkhnencepibcpaaGreatD
import Derived.Test.YtkhnencepibcpaaGreatG
set_option linter.all false
set_option maxRecDepth 100000
set_option cbv.maxSteps 100000000
set_option cbv.warning false
set_option maxHeartbeats 100000000
open Bool renaming rec->vi,false->W,true->V
open Go.Lib renaming compact->aat,keeps->ais
open List renaming filter_cons->avX,range->vv,rec->acB
open Nat renaming beq->gr,ble->th
open Option renaming rec->DT,none->X,some->O
open _root_ renaming Int->U,Nat->R,Option->gw,rfl->Q
namespace Go.Abs
noncomputable section
open Go Go.Proofs
variable{args:aF}{l:aK}{r:xe}{tab:dG}
section
variable{S:uo}{ng:R}{p:Ay}
def leI(a b:U):Bool:=match a,b with
 |.ofNat a,.ofNat b=>th a b
 |.negSucc _,.ofNat _=>V
 |.ofNat _,.negSucc _=>W
 |.negSucc a,.negSucc b=>th b a
def ai1{a b:U}:leI a b=V↔a<=b:=by cases a<;>cases b<;>simp[leI]<;>omega
def ET(x:U)(l:aK):aK:=acB (motive:=λ _=>aK) [x] (λ y l u=>vi (motive:=λ _=>aK) (y::u) (x::y::l) (leI x y)) l
def SX(l:aK):aK:=acB (motive:=λ _=>aK) [] (λ x _ u=>ET x u) l
def afN{x y:U}:ET x (y::l)=if x<=y then x::y::l else y::ET x l:=by
 show vi (motive:=λ _=>aK) (y::ET x l) _ _=_;cases h:leI x y;.rw[aR (λ u=>by rw[ai1.2 u]at h;cases h)]
 rw[aY (ai1.1 h)]
def aa4{x:U}:∀{l:aK},(ET x l).Perm (x::l)
 |[]=>apV _
 |y::l=>by
  rw[afN];split;.exact apV _
  exact((aa4).cons y).trans (List.Perm.swap x y l)
def ayq{x z:U}(h:z∈ET x l):z=x\/z∈l:=cg.1 ((aa4).mem_iff.1 h)
def afu{x:U}:∀{l:aK},l.Pairwise (·<=·)->(ET x l).Pairwise (·<=·)
 |[],_=>List.pairwise_singleton _ _
 |y::l,h=>by
  rw[afN];obtain⟨h1,h2⟩:=apW.1 h;split
  .rename_i A
   exact apW.2 ⟨λ z u=>by
    rcases cg.1 u with rfl|u
    .exact A
    exact apQ A (h1 z u),h⟩
  exact apW.2 ⟨λ z u=>by
   rcases ayq u with rfl|u
   .omega
   exact h1 z u,afu h2⟩
def apk:∀{l:aK},(SX l).Perm l
 |[]=>apV _
 |x::l=>(aa4).trans (apk.cons x)
def af0:∀{l:aK},(SX l).Pairwise (·<=·)
 |[]=>List.Pairwise.nil
 |x::l=>afu af0
def arS(l:aK):SX l=qp l:=(apk.trans (List.mergeSort_perm l _).symm).eq_of_pairwise (λ a b _ _ h1 h2=>Int.le_antisymm h1 h2) af0 ((List.pairwise_mergeSort (λ a b c h1 h2=>by simp at*;omega) (λ a b=>gD) l).imp λ h=>jL h)
def vx(l:aK):Ay->aK:=acB (motive:=λ _=>Ay->aK) (λ _=>[]) (λ x _ u p=>DT (motive:=λ _=>aK) (x::u (O x)) (λ q=>vi (motive:=λ _=>aK) (x::u (O x)) (u (O x)) (CS q x)) p) l
def aEx:vx [] p=[]:=rfl
def YB{x:U}:vx (x::l) p=if p=O x then vx l (O x)else x::vx l (O x):=by
 cases p;.rfl
 rename_i q;show vi (motive:=λ _=>aK) (x::vx l _) (vx l _) _=_;cases h:CS q x
 .have u:∀z,CS z z=true:=λ z=>by cases z<;>simp[CS]
  rw[aR (λ e=>by rw[tO e,u]at h;cases h)]
 rw[Vi h,aY Q]
def aoO{x:U}:∀{l:aK} {p:Ay},vx (l++[x]) p=vx l p++(if(l.getLast?.or p)=O x then[]else[x])
 |[],p=>by show vx [x] p=[]++(if p=O x then[]else[x]);rw[YB,aEx,mG]
 |y::l,p=>by
  rw[AX,YB,YB,aoO]
  have u:((y::l).getLast?.or p)=(l.getLast?.or (O y)):=by
   cases l;.rfl
   rename_i z l;rfl
  rw[u];split<;>simp
def asV{x:U}:aat (l++[x])=aat l++(if l.getLast?=O x then[]else[x]):=by
 unfold aat Lib.compactUpTo;rw[kQ,UW,apO,List.filter_append,zD];have u:∀j,j<l.length->(l++[x]).toArray[j]! =l.toArray[j]! :=λ j A=>by simp[A,List.getElem_append_left,jc A]
 have y:(l++[x]).toArray[l.length]! =x:=aw
 congr 1
 .have h1:(vv l.length).filter (ais (l++[x]).toArray)=(vv l.length).filter (ais l.toArray):=by
   apply List.filter_congr;intro j A;have A:=Ox.1 A;unfold ais;rw[u j A];by_cases h0:j=0;.simp[h0]
   rw[u (j- 1) aa]
  rw[h1];apply mH;intro j A;exact u j (Ox.1 (He.1 A).1)
 by_cases h0:l=[];.subst h0;simp[ais]
 have D:=List.length_pos_iff.2 h0;have J:l.getLast?=O (l.toArray[l.length- 1]!):=by rw[List.getLast?_eq_getElem?];simp[eg (aa:l.length- 1<l.length)]
 have F:ais (l++[x]).toArray l.length=decide (x≠l.toArray[l.length- 1]!):=by unfold ais;rw[y,u _ aa];simp[h0]
 rw[J];by_cases hx:x=l.toArray[l.length- 1]!;.rw[aY (by rw[<-hx])];rw[avX,F,aR (by simp[<-hx])];rfl
 rw[aR (λ e=>hx (tO e).symm)];rw[avX,F,aY (jR hx)];simp[y]
def aBw(l:aK):vx l X=aat l:=by
 have y:∀n,∀l,l.length=n->vx l X=aat l:=by
  intro n;induction n with
  |zero=>intro l u;obtain rfl:=mF u;rfl
  |succ n D=>
   intro l u;have A:l≠[]:=λ e=>by rw[e]at u;cases u
   rw[<-List.dropLast_concat_getLast A,aoO,asV,D _ gD,Option.or_none]
 exact y _ l rfl
def acH(a:au)(r:gw aK):gw aK:=match a,r with
 |.int .i64 n,O r=>O (n::r)
 |_,_=>X
def PY(l:aF):gw aK:=acB (motive:=λ _=>gw aK) (O []) (λ a _ u=>acH a u) l
def aCr{a:au}{x:gw aK}{u:aK}(h:acH a x=O u):∃n r,a=ao n/\x=O r/\u=n::r:=by unfold acH at h;split at h<;>cases h;exact⟨_,_,Q,Q,Q⟩
def Lk:∀{l:aF} {u:aK},PY l=O u->l=gZ u
 |[],u,h=>by cases h;rfl
 |a::l,u,h=>by obtain⟨n,r,rfl,y,rfl⟩:=aCr (h);rw[Lk y];rfl
def Vw(H:aj):aF->kO
 |[.aq]=>O (.tuple [],H)
 |[.slice v 0 n X]=>match H.ah.get v with
  |O r=>match gr r.sz 1,aQ H.ah.get v 0 n with
   |V,O y=>match PY y with
    |O u=>match th u.length 1000,write H v 0 (gZ (SX u))with
     |V,O A=>O (.tuple [],A)
     |_,_=>X
    |X=>X
   |_,_=>X
  |X=>X
 |_=>X
def Yx(H:aj):aF->kO
 |[.aq]=>O (.aq,H)
 |[.slice v 0 n X]=>match H.ah.get v with
  |O r=>match gr r.sz 1,aQ H.ah.get v 0 n with
   |V,O y=>match PY y with
    |O u=>match th u.length 1000,write H v 0 (gZ (vx u X++List.replicate (u.length-(vx u X).length) 0))with
     |V,O A=>O (.slice v 0 (vx u X).length X,A)
     |_,_=>X
    |X=>X
   |_,_=>X
  |X=>X
 |_=>X
def X7(H:aj):aF->kO
 |[.agg _,.ptr u off]=>match aQ H.ah.get u off 38 with
  |O y=>match y[8]?with
   |O c=>match lenOf c with
    |O 0=>O (ao 0,H)
    |_=>X
   |X=>X
  |X=>X
 |_=>X
def aas(H:aj):aF->kO
 |[.func f [] [.ptr u off]]=>match gr f 382,aQ H.ah.get u off 1 with
  |V,O [c]=>match lenOf c with
   |O n=>match er H.ah.get 1 n c with
    |O A=>match PY A with
     |O []=>O (.aq,H)
     |O (z::y)=>match th (z::y).length 1000 with
      |V=>O (.slice H.ae 0 (z::y).length X,alloc H (gZ (z::y)) W 1)
      |W=>X
     |X=>X
    |X=>X
   |X=>X
  |_,_=>X
 |_=>X
def bK:bg:=λ f args H=>match gr f 217 with
 |V=>Vw H args
 |W=>match gr f 311 with
  |V=>Yx H args
  |W=>match gr f 237 with
   |V=>X7 H args
   |W=>match gr f 381 with
    |V=>aas H args
    |W=>X
def aIW{H:aj}(h:Vw H args=O r):kW 217 args H r:=by
 unfold Vw at h;split at h;.cases h;exact .NL
 .split at h<;>try cases h
  rename_i r D;split at h<;>try cases h
  rename_i K h1 y;split at h;.rename_i J A;split at h<;>cases h;rename_i F u;rw[Lk A]at y;rw[arS]at u;exact .sort y ⟨_,D,cI h1⟩ (Hc F) u
  cases h
 cases h
def aya{H:aj}(h:Yx H args=O r):kW 311 args H r:=by
 unfold Yx at h;split at h;.cases h;exact .Ln
 .split at h<;>try cases h
  rename_i r D;split at h<;>try cases h
  rename_i K h1 y;split at h;.rename_i J A;split at h<;>cases h;rename_i F u;rw[Lk A]at y;rw[aBw]at u⊢;exact .comp y ⟨_,D,cI h1⟩ (Hc F) u
  cases h
 cases h
def ax4{H:aj}(h:X7 H args=O r):kW 237 args H r:=by
 unfold X7 at h;split at h
 .split at h
  .rename_i D y;split at h;.rename_i c A;split at h<;>cases h;rename_i u;exact .fill y A u
   cases h
  cases h
 cases h
def aFi{H:aj}(h:aas H args=O r):kW 381 args H r:=by
 unfold aas at h;split at h<;>try cases h
 split at h<;>try cases h
 rename_i c J D;obtain rfl:=cI J;split at h<;>try cases h
 rename_i n A;split at h<;>try cases h
 rename_i M u;split at h;.rename_i y;cases h;rw[Lk y]at u;exact .Ga D u A
 .rename_i z K y;split at h<;>cases h;rename_i F;rw[Lk y]at u;exact .G7 D u A (Hc F) aw
 cases h
def akx{f:ck}{H:aj}(h:bK f args H=O r):kW f args H r:=by
 unfold bK at h;split at h;.rename_i e;obtain rfl:=cI e;exact aIW h
 split at h;.rename_i e;obtain rfl:=cI e;exact aya h
 split at h;.rename_i e;obtain rfl:=cI e;exact ax4 h
 split at h;.rename_i e;obtain rfl:=cI e;exact aFi h
 cases h
def aEl:jV af ng bK:=λ f args H v A h Bqq ρ w y s wf u hx=>ail (akx h) Bqq ρ w y s wf u hx
def awc:ib bK:=λ f args H v u h=>afR (akx h)
def qk1(a b:au):Bool:=match a,b with
 |.bool x,.bool y=>x==y
 |.int _ x,.int _ y=>CS x y
 |.slice _ _ n _,.slice _ _ m _=>gr n m
 |.slice _ _ _ _,.aq=>W
 |.aq,.slice _ _ _ _=>W
 |_,_=>V
def qkL(f:au->au->Bool)(l:aF):aF->Bool:=acB (motive:=λ _=>aF->Bool) (λ _=>V) (λ a _ u m=>match m with|[]=>V|b::m=>match f a b with|V=>u m|W=>W) l
def qk(a b:au):Bool:=match a,b with
 |.agg A,.agg u=>qkL qk1 A u
 |x,y=>qk1 x y
def OV(tab:dG):QH:=λ f args H=>acB (motive:=λ _=>cR) X (λ S _ u=>vi (motive:=λ _=>cR) u (vi (motive:=λ _=>cR) u (DT (motive:=λ _=>cR) u (λ v=>O v) (JT S args H)) (qkL qk S.args args)) (gr S.f f)) tab
def aGa{f:ck}{H:aj}{v:au}(h:OV (S::tab) f args H=O v):OV tab f args H=O v\/apv [S] f args H=O v:=by
 have h:vi _ _ _=O v:=h;cases y:gr _ f;.rw[y]at h;exact .inl h
 rw[y]at h;cases A:qkL qk _ args;.rw[A]at h;exact .inl h
 rw[A]at h;cases u:JT S args H;.rw[u]at h;exact .inl h
 rename_i x;rw[u]at h;refine .inr ?_;show vi X _ _=O v;rw[y,u];exact h
def ae5:∀{tab:dG},(∀S∈tab,Jw af ng S)->Yl af ng (OV tab)
 |[],_=>nofun
 |S::tab,u=>λ f args H v h=>by
  rcases aGa h with h|h
  .exact ae5 (λ Xqq y=>u Xqq (cV _ y)) f args H v h
  exact ahC (λ Xqq y=>(cJ.1 y)▸u S (dJ ..)) f args H v h
def P1(tab:dG):bg:=N9 af 0 (NV bK (KX (OV tab))) 1000
def aoj(u:xW af)(h:∀S∈tab,Jw af 0 S):jV af 0 (P1 tab):=aex (arv aEl (aza (ae5 h))) (aJq awc aCo) u _
def aFf(u:xW af)(h:∀S∈tab,Jw af 0 S)(h1:S.ok 0=V)(h2:QM S.res (P1 tab S.f S.args S.H)=V):Jw af 0 S:=by obtain⟨A,y⟩:=ai6 h2;exact⟨h1,_,A,aoj u h,y⟩
end
noncomputable section
def Mr:R->DP au
 |0=>MS .aq
 |n+1=>λ s=>match dn s with
  |(0,s)=>(.bool W,s)
  |(1,s)=>(.bool V,s)
  |(2,s)=>fT (.int .i64) dz s
  |(3,s)=>fT (.int .u64) dz s
  |(4,s)=>fT (λ l:bG=>.str (by8 l)) (dl dn) s
  |(5,s)=>(match dz s with|(d,s)=>gm (gm (fT (λ r o l=>.slice r o l X) (MS ((s.m:U)+d).toNat)) dn) dn ⟨s.l,((s.m:U)+d).toNat,s.q⟩)
  |(6,s)=>(.aq,s)
  |(7,s)=>fT .agg (dl (Mr n)) s
  |(_,s)=>fT .tuple (dl (Mr n)) s
def drw:DP (R×Row):=λ s=>gm (fT (λ z c=>(s.q,pr z c)) dn) (dl (Mr 9)) ⟨s.l,s.q,s.q+1⟩
def dsm:DP uo:=λ s=>match gm (fT (λ a r l=>⟨0,a,l,Nat.add 2 l.length,r⟩) (dl (Mr 9))) (Mr 9) ⟨s.l,2,2⟩with
 |(h,s)=>fT h (dl drw) s
def dW:List jQ:=cv (Vo (DF "20tot)'15$uNu7to0'24ut2tW001200YY221t;w`u2001n'3nu^723tWwbu610.i24uSu].v'uBY$Y6$*6*&4$1Yu:v%uVt=^*wmtAft<tZ%nt@$t:464&1$tqux5+jj00v;`00v<uEwttY.t&aud(u@qv=`kwv&v>tw([21X2tUi02Zt<*'2$73tWtpu_[*t&0t+v?4wxv0v@uewzt*3u7nmnt].uA**v$4x&ix(vDI?j666u3YtTtTuwt=uUu526+t*`l004Y+ouNv.231Ex*vFx.vGx0v7t>gBuCuRvIx1lx4X44HAI:47ltSd1uR5t>Zu=v(t?0we0uV0'tttTv4uYXtuuTx8+001t+00fvJuf3u_%tCt_txuAv:ev:$rtyAuC'uh00vKo00I;HC1ui332jtVuuu2u2XYt(tVwSdw[ux0379uZuO75+ZuYt;$ewi0u?v%v2t=+t>v8ugI1u0II@uhtj4507up013ktS&&kk7E1436u|u~5:v$t:uWt;wX$wZuow].00XX4tY(t<tXtp18wht=8u4uRv0ucFv8uMupt=06vMCtktluGII8tjuHtjIvO1501&$0vP8wKt&6tS99`usdduQnuOuy00wW<00tnuz1Xu9t>u8tSuPu6u[v&58^v)v*u;5tB00ie00wd6wg2wjusv,u`wn$woE1u<*ub1`v+&uYu7uDt[wp;v9v+wrt=t(tv*tswuEtpuZuuv(tZoww1$$tZt*w|vCw~pu@u^x6t^.HvLW<tkvNJuMuK@tmvQGvR5vSu1vTu1vUuHvVAvWtlvXuIvYt:vZuq00v[tjv]Gv^7v_tkv`tRvaIvbmvcuJvdGve@vfu0vgujvhurvi&vjt'vkHvl0vmukvn>votRvpu0vqtlvrt:vsuJvttmvuHvvBvwtkvxulvyuj00vzu100v|Iv~uiw$2w%Iw&Dw'uJw(uKw)tRw*uIw+tk00w,uI00w.uGw0iw1*w2.w3umw4<w5uGw6tlw7t'w8u1w9ulw:u0w;tRw<ukw=uLw>>w?umw@CwAtlwBtRwCu4wDt&wEXwFunwGuowHtRwIXwJt&uv2wL:wM&wNkwOtnwPuvwQYwRu5un0wTIwU>wVuHuTY43wYIuXt<00tnuQuNuPw^&w_u6uSuPwav'BtXwcluK:u>uOwfu<563uwtm26tWwkv1wlv&uat:kt@t[$^tAwqv)buSwsv.t?uLuVu;$E*vAnt)wy)00vBp00Btrv3trx$uLx%9lv5x'5v3tXx)v6lt?x+.00x,vE00v7&'0v,trx2vHx3v6tsv5x59&$x76") 30)
def eT(f:R)(d:uo):uo:=⟨f,d.args,d.rows,d.ae,d.res⟩
abbrev eS(f:R)(s:String)(h:{l:List Char//s=String.ofList l}:=by exact⟨_,rfl⟩):uo:=eT f (dec dW dsm h.1)
def A0:dG:=[]
def A1:dG:=eS 197 "h6etE"::eS 197 "h4et|"::eS 197 "uBX4tE"::eS 197 "auAtE"::eS 196 ",tz1.4"::eS 197 "hjtE"::eS 197 "hmt|"::eS 197 "ht@t|"::eS 197 "avFt|"::eS 196 ",tz1t)"::eS 239 ",t[17uE"::eS 284 "h2tzu2"::eS 71 "uf4tD4u]vJ"::eS 19 ",*vE+E5F:tXtrt*o"::eS 66 "2tBu=u[u8t,?t^"::eS 132 "av1u8t,;uC"::eS 127 ",u>kjtSu?"::eS 137 "v20u7t:t+"::eS 197 "h6t@t+"::eS 197 "h4t@t+"::eS 197 "uBXt:t+"::eS 197 "a$t@t+"::eS 196 ",tz]"::eS 66 "2tBuUtV6t,:tZ"::eS 132 "au>tnu<YtV6t,7uE"::eS 71 "uFj1Z"::eS 127 ",u>lt,7uE"::eS 71 "uF&t&t;t<"::eS 139 ".ur"::eS 37 "1tW8e0$t+"::A0
def A2:dG:=eS 202 ",ud'4t?tttFv@ta:tZ_]t~bst1t2_c"::eS 146 "2uMuq.u6"::eS 318 "2tpu|ug&tSuzu5tptX1:t*t*"::eS 238 "t`t`48t`u;40"::eS 287 "t.'4*t0t~%"::eS 197 "h6tYt|"::eS 197 "hu^tE"::eS 197 "uBX6tE"::eS 197 "a$tYtE"::eS 196 ",tz1.6"::A1
def A3:dG:=eS 71 "u$tDtJu@m"::eS 74 "t3'4t?tttFtG'4t?tttFtH?t$t~bftUetYt1tI_]t~bst1t2_c"::eS 287 "t.'t(t0s%"::eS 71 "uft(t&4u]t<"::eS 238 "t`t`28t`u;$"::A2
def A4:dG:=eS 287 "t.^&t0u%"::eS 239 ",`^&17+u_"::eS 227 ",tA^&^8Yt);+tC"::eS 71 "u$&t&tJt<"::eS 287 "t.qt0t4m%"::A3
def A5:dG:=eS 74 "t3t5tGt5tH;t$t4m[(tU2m[t_tItK]t4m[u&t2tKc"::A4
def A6:dG:=eS 40 "tbqtct4m%tK]"::A5
def A7:dG:=eS 71 "u$tDtJu@t]"::A6
def A8:dG:=eS 287 "t.qt0t4t]%"::A7
def A9:dG:=eS 74 "t3t5tGt5tH;t$t4t][(tUeY[t_tItL]t4t][u&t2tLc"::A8
def VY:dG:=eS 40 "tbqtct4t]%tL]"::A9
def Xm:dG:=eS 71 "u$tDtJu'"::VY
def Zf:dG:=eS 287 "t.qt0(u'%"::Xm
def A13:dG:=eS 74 "t3t5tGt5tH;t$(u'[(tUuA[t_tItM](u'[u&t2tMc"::Zf
def Xa:dG:=eS 40 "tbqtc(u'%tM]"::A13
def Xd:dG:=eS 71 "uFtDt;txi"::Xa
def A16:dG:=eS 287 "v;t[t0t>%"::Xd
def Xb:dG:=eS 74 "t3tNtdtGtNtdtH7t$ZtxigtedtItonZtxigtedt2)"::A16
def W4:dG:=eS 40 "tbtNtcZtxi%ton"::Xb
def A19:dG:=eS 71 "u$tDtJu("::W4
def A20:dG:=eS 287 "t.qt0(u(%"::A19
def Z1:dG:=eS 74 "t3t5tGt5tH;t$(u([(u3t;4[t_tItO](u([u&t2tOc"::A20
def A22:dG:=eS 40 "tbqtc(u(%tO]"::Z1
def Yj:dG:=eS 71 "uFtDt;u)"::A22
def A24:dG:=eS 287 "t.tNv<+tqu)%"::Yj
def Vt:dG:=eS 74 "t3tNtdtGtNtdtH7t$Zu)gZu3X$gdtIt%]Zu)gtedt2t%c"::A24
def VD:dG:=eS 40 "tbtNtcZu)%t%]"::Vt
def U2:dG:=eS 20 "6tBu`uUtV6t,$uau4?vG"::VD
def YI:dG:=eS 239 ",t616u?"::U2
def ZC:dG:=eS 231 "rtut('tm3ptwCuCsb_"::YI
def A30:dG:=eS 318 "2vBugvCvHta0oo"::ZC
def ZP:dG:=eS 231 "rtut''tm3ptwtffb_"::A30
def A32:dG:=eS 74 "t3'v?t'tvt(vAvItT'tFt?ttt(lueBt$sbft11.1)o_sbt~t11t)_]"::ZP
def ZY:dG:=eS 40 "tPtut(tQs%_"::A32
def A34:dG:=eS 231 "rt7t8tftCtK"::ZY
def Xq:dG:=eS 202 ",ud^&v*0uTv9tsta7t$tCt9t_1.1)"::A34
def A36:dG:=eS 227 ",tA^6^8Yt):+t9"::Xq
def A37:dG:=eS 172 "at6`^j7+uWtJ"::A36
def XW:dG:=eS 231 "u*t8u+t9tK"::A37
def A39t:dG:=eS 40 "tPt7tQu%tK"::XW
def Wv:dG:=eS 231 "rt7t8tftCtL"::A39t
def VF:dG:=eS 231 "u*t8u+t9tL"::Wv
def A42:dG:=eS 40 "tPt7tQu%tL"::VF
def YE:dG:=eS 231 "rt7t8tftCtM"::A42
def A44:dG:=eS 231 "u*t8u+t9tM"::YE
def X1:dG:=eS 40 "tPt7tQu%tM"::A44
def A46:dG:=eS 40 "tPp&tQt>%d"::X1
def Wb:dG:=eS 231 "rt7t8tftCtO"::A46
def Wz:dG:=eS 231 "u*t8u+t9tO"::Wb
def A49:dG:=eS 40 "tPt7tQu%tO"::Wz
def ZU:dG:=eS 231 "rp&*tAubtwu+tet%"::A49
def A51:dG:=eS 231 "rp6*tAubtw@u?u9tqgt%"::ZU
def W6:dG:=eS 40 "tPp&tQt>%t%"::A51
def YD:dG:=eS 153 "2tBu=tnuytV6t,:+u:"::W6
def Yy:dG:=eS 20 "6tBu`u=u[u8t,t@ucE0vD"::YD
def A55:dG:=eS 202 ",tgu,'t'tvtFthta>t^)fbst1c%"::Yy
def Yr:dG:=eS 74 "atgu,'t'tvtFthtgtT't'tvtFthucG2t^)fbst1c%o_fbftUetYt1c_1t)"::A55
def Wi:dG:=eS 40 "titut'u.f)_"::Yr
def VV:dG:=eS 287 "uDt6`^6`ts$9+uWtJ)"::Wi
def Wg:dG:=eS 231 "u*v>u,v4tft9)"::VV
def Vu:dG:=eS 202 ",tgu,^6v=thta<t^)t9u&c%"::Wg
def Zs:dG:=eS 40 "tityu.()tK"::Vu
def A62:dG:=eS 40 "tityu.()tL"::Zs
def Xk:dG:=eS 40 "tityu.()tM"::A62
def A64:dG:=eS 40 "tityu.()tO"::Xk
def A65:dG:=eS 287 "uDt6t6`ts$9+uX)"::A64
def Zw:dG:=eS 113 "5tWt[t6t[uau4:+tqto.1"::A65
def YC:dG:=eS 74 "atgu,ktdthtgtTktdthue>t^)Zgte)%ot%ZgZu3X$g)t%1t)"::Zw
def Wn:dG:=eS 40 "tip6vKu:u9tq)t%"::YC
def A69:dG:=eS 169 "3tBuZu~u5tAl*$?tZte"::Wn
def WM:dG:=eS 287 "uDt6t6`*j8+uXd"::A69
def Y2:dG:=eS 18 "a*u<X5E<t=6uQetatjutE5F:tXtrt*u:u9t*"::WM
def bm(l:dG):Prop:=∀S∈l,Jw af 0 S
def ru0:bm []:=λ _ h=>bk
end
end
end Go.Abs
