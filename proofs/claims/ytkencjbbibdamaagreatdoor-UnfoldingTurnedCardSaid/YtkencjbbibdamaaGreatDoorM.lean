/- All contracts. -/
import Derived.Test.YtkencjbbibdamaaGreatDoorG
import Derived.Test.YtkencjbbibdamaaGreatDoorL1
import Derived.Test.YtkencjbbibdamaaGreatDoorL2
import Derived.Test.YtkencjbbibdamaaGreatDoorL3
import Derived.Test.YtkencjbbibdamaaGreatDoorL4
set_option linter.all false
set_option maxRecDepth 100000
namespace Go.Abs
noncomputable section
open Go
section
open Go.Proofs
def ty9:Tryz.prog.underlying 9=some .string:=by kernel_rfl
def aaR(i a:Nat):∀t,(Cx i a).st t=true->Tryz.prog.underlying t=some .string:=λ t h=>by rw[cU h];exact ty9
def OQ:∀{l:List Nat} {g:Nat},AL l g=true->g∈l
 |[],g,h=>by cases h
 |a::l,g,h=>by
  unfold AL at h;rw[nZ]at h;rcases h with h|h
  .rw[cU h];exact cS
  exact cz _ (OQ h)
def asQ:Ju.all (λ g=> !bset g)=true:=by kernel_rfl
def XN(i a:Nat):∀g F,(Cx i a).fn g=some F->db af (pol g) g=some F/\bset g=false:=λ g F h=>by
 have h:(match AL Ju g with|true=>db af (pol g) g|false=>none)=some F:=h;split at h;.rename_i q;have:=ij.1 asQ g (OQ q);exact⟨h,by simpa using this⟩
 cases h
def okA:okL.all (cy af)=true:=by kernel_rfl
def aay(i a:Nat):∀g,(Cx i a).ok g=true->cy af g=true:=λ g h=>ij.1 okA g (OQ h)
variable{gl:aM}{base:eH}
structure Sl (gl:aM) (base:eH):Prop where
 h0:iZ (vω af pol gl bset base) bQ 161 ct0 none
 h3:iZ (vω af pol gl bset base) bQ 162 vw none
 h52:iZ (vω af pol gl bset base) bQ 147 YH none
 h60:iZ (vω af pol gl bset base) bQ 177 Am none
 h68:iZ (vω af pol gl bset base) bQ 82 DU none
 xM:iZ (vω af pol gl bset base) bQ 263 DX none
def bH{u:Bool}{i f:Nat}{q:Option Nat}{c:Ct}(a:bset f=false)(h:kp u i f c=true):U9 af gl pol bset base bQ wq (i,q,f,c):=by
 unfold kp at h;split at h
 .rename_i F y;refine .inr ⟨cxu u i f,F,200,?_,?_,?_,?_,?_,y,a,h⟩;.cases u<;>rfl
  .cases u<;>rfl
  .cases u<;>exact aaR i f
  .cases u<;>exact XN i f
  cases u<;>exact aay i f
 cases h
def awf(H:Sl gl base):Bu (U9 af gl pol bset base bQ wq) wq:=⟨
 bH rfl aqW,
 bH rfl ant,
 bH rfl axz,
 .inl H.h0,
 bH rfl kp1,
 bH rfl kp2,
 .inl H.h3,
 bH rfl kp4,
 bH rfl kp5,
 bH rfl kp6,
 bH rfl kp7,
 bH rfl kp8,
 bH rfl atf,
 bH rfl auf,
 bH rfl ajU,
 bH rfl azs,
 bH rfl ajq,
 bH rfl am3,
 bH rfl aki,
 bH rfl avn,
 bH rfl aox,
 bH rfl ar7,
 bH rfl awq,
 bH rfl aqY,
 bH rfl ajz,
 bH rfl azx,
 bH rfl anD,
 bH rfl arI,
 bH rfl aAe,
 bH rfl am2,
 bH rfl awL,
 bH rfl ai2,
 bH rfl axc,
 bH rfl aoG,
 bH rfl aqH,
 bH rfl ayQ,
 bH rfl auQ,
 bH rfl auX,
 bH rfl ap0,
 bH rfl alg,
 bH rfl al4,
 bH rfl arC,
 bH rfl ay1,
 bH rfl avo,
 bH rfl aue,
 bH rfl an2,
 bH rfl akm,
 bH rfl aqv,
 bH rfl azt,
 bH rfl aqr,
 bH rfl asj,
 bH rfl az8,
 bH rfl aoE,
 bH rfl ayU,
 bH rfl aAI,
 .inl H.h52,
 bH rfl awx,
 bH rfl axK,
 bH rfl amf,
 bH rfl ayj,
 bH rfl akB,
 bH rfl awZ,
 .inl H.h60,
 bH rfl ayC,
 bH rfl anC,
 bH rfl amJ,
 bH rfl asC,
 bH rfl avw,
 .inl H.h68,
 bH rfl axn,
 bH rfl av4,
 bH rfl aw7,
 bH rfl alE,
 bH rfl anm,
 bH rfl aod,
 bH rfl asI,
 .inl H.xM,
 bH rfl arw,
 bH rfl as7,
 bH rfl apc,
 bH rfl amQ,
 bH rfl alZ,
 bH rfl ao2,
 bH rfl apf,
 bH rfl aj7,
 bH rfl azl,
 bH rfl ax0,
 bH rfl aze,
 bH rfl aoe,
 bH rfl awr,
 bH rfl asF,
 bH rfl apJ,
 bH rfl arF,
 bH rfl asl,
 bH rfl auc,
 bH rfl azA,
 bH rfl az4,
 bH rfl aiY,
 bH rfl anj,
 bH rfl ar1,trivial⟩
def aAp:Gz wq=true:=by kernel_rfl
def amc(H:Sl gl base):∀p∈wq,iZ (vω af pol gl bset base) bQ p.2.2.1 p.2.2.2 none:=azL AX aAp (awf H)
end
section
variable{Z7:cI}{tb:js}{f:Nat}
def BY(s:List UInt8):Ct:=⟨[],[.sc (.str s)],[],none,[⟨1,.bs 1,[]⟩]⟩
def az2{l:List (List UInt8)}(h:∀s∈l,iZ Z7 tb f (BY s) none):iZ Z7 tb f ⟨[3],[.ss 1],[.str 1 l],none,[⟨1,.bs 2,[]⟩]⟩ none:=by
 intro ρ h0 G D _;have A:(ρ 1).s∈l:=D _ (dp.2 rfl);obtain⟨o,y,ρ',_,_,F,_⟩:=h _ A (λ _=>SV.z) rfl (λ i hi=>by simp[BY]at hi) (λ f q=>by cases q) (λ m lo e=>by cases e);rw[show(BY (ρ 1).s).outs=[⟨1,.bs 1,[]⟩]from rfl,dp]at y;subst y;refine⟨_,dp.2 rfl,λ x=>if x=2 then⟨0,(ρ' 1).b,[],[]⟩else if x<2 then ρ x else SV.z,λ x a=>?_,λ x a=>?_,λ S=>?_,λ f q=>by cases q⟩;.have a:x<2:=a;show ρ x=if x=2 then _ else if x<2 then ρ x else SV.z;rw[aj (by omega),ao a]
 .have a:3<=x:=a;show(if x=2 then _ else if x<2 then ρ x else SV.z)=_;rw[aj (by omega),aj (by omega)]
 exact F S
end
end
end Go.Abs
