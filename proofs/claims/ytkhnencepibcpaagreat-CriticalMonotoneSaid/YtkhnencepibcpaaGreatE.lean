/- Functions of the program in the short form. -/
import Derived.Test.YtkhnencepibcpaaGreatD
import Derived.Test.YtkhnencepibcpaaGreatProg
import Derived.KernelRfl
set_option linter.all false
set_option maxRecDepth 100000
set_option cbv.maxSteps 10000000
set_option cbv.maxSteps 100000000
set_option cbv.warning false
set_option maxHeartbeats 100000000
set_option maxHeartbeats 40000000
open Nat renaming add->ap7,div->ajQ,mod->aow,rec->asw
open Option renaming none->X,some->O
open Prod renaming rec->abE
open _root_ renaming List->B,Nat->R
namespace Go.Abs
noncomputable section
open Go Go.Proofs
abbrev af:aA:=Tryz.prog
abbrev LE(P B:CC)(h:bG×bG):Prop:=∀{gl:bH} {u:eE} {n:R} {T:VT} {st:aG},cO af gl u n P T st=wO (cO af gl u n P) (cO af gl u n B (qX (O h) T st).1 (qX (O h) T st).2)
noncomputable def pV:Nat->Nat->Nat×Nat:=asw (λ s=>(0,s)) λ _ u s=>Bool.rec (aow s 8,ajQ s 16) (abE (λ v r=>(ap7 (aow s 8) (Nat.mul 8 v),r)) (u (ajQ s 16))) (Nat.beq (aow (ajQ s 8) 2) 1)
noncomputable def pD:Nat->Nat->Nat->bG×Nat:=asw (λ _ s=>([],s)) λ _ u p s=>abE (λ v r=>abE (λ l t=>(ap7 p v::l,t)) (u (ap7 p v) r)) (pV 4 s)
noncomputable def pS(s:Nat):bG×Nat:=abE (λ n r=>pD n 0 r) (pV 4 s)
noncomputable def pR:Nat->Nat->Nat->EM×Nat:=asw (λ _ s=>([],s)) λ _ y i s=>abE (λ a r=>abE (λ b t=>abE (λ l u=>((i,a,b)::l,u)) (y (Nat.succ i) t)) (pS r)) (pS s)
noncomputable def pH:Nat->Nat->Nat->EM×Nat:=asw (λ _ s=>([],s)) λ _ y p s=>abE (λ i q=>abE (λ a r=>abE (λ b t=>abE (λ l u=>((ap7 p i,a,b)::l,u)) (y (ap7 p i) t)) (pS r)) (pS q)) (pV 4 s)
noncomputable def pP(s:R):mh:=abE (λ n r=>abE (λ o t=>abE (λ m u=>abE (λ h v=>⟨o,h,(pS v).1,[]⟩) (pH m 0 u)) (pV 4 t)) (pR n 0 r)) (pV 4 s)
noncomputable def ar8:B jQ:=cv (Vo (DF "151214132^3^102216004^005^6^17320033111<%21:1918201;^^2452&040,08^'^1=507^%034^03)1>'270&2301?423%00600035^2)5254f3+3.44:^8062(237%^'f^%%4(j8ftA[^5('26<^*i*o3((%3X;2e^&^3'8*$2$0&5lc*04)4%quH=^f6003i)236[4(4Z^&.7v`,2X7.4&3Y6*2dt),^+t(3?%6&7t0]')f2$^ii3:)^(+58*j005)00'0&4'4&)^$q2*4725%u6tK005f002:t>738*t'+4*k82+2[(c*2;5tE8t=%7t=t,^4'5&6vv'l0t)3trk)=w(vo*t)`t&)t,X5&:uIvB+tC)vC6t49^;^%3'+:*tO43Y9%Z2+uk7(00X2uJ.a^6%vt%8$tf54t$f0'l9*fYso*t.8&3[&juHvAg*b^393`*56=X%*tQt:tVtK)8%c%00'600(&$tEt,%9t=t%23$tHit)vA;('%00fd00754..0,5t%^_([&4+f%7=[%t$tWZt4$:7s)6bpivlvu%9(85%t)`tRm26fr4'93;a22<t,^3<mtP+*3Zt@*:s3&8ml'.6tF*uw%=(00tJ0vpe+0v_*tXtg7%t1l+te`te't73=(^45vk)t=%j&>8Fvmj,tHjq*tI,t(c9u7%tm'tmvnvqvwvovxvrvyui00vzt(00v|ujv~vsw$tHw%vow&tHw'%") 23)
noncomputable abbrev hx(s:String)(h:{l:B Char//s=String.ofList l}:=by exact⟨_,rfl⟩):B (R×bG):=(dl (qD dn (dl dn)) ⟨XO ar8 (Wj h.1),0,0⟩).1
noncomputable def aDI:B (B (R×bG)):=[hx "rU0:tJ()9tJ3uxt$tLtn3muWtn))uW3t%3mtLtn3mtLtn3mt6[)3h[vD`3t:[8X+t<2tJ>4t&ruytJ>4bulr3tKuytJn4t(ruzu8<4tRt6uXu8e4tet6uzu8<4tRt6uXu8<4e8tRt6uy[t7t*3tRt_4uYt`6>3t(t_6t:t`<4t&t_h[vD`3h[vD`](`5Xtn3mt_h[vD`]7??u|M292uxvat8u4*t2%uK<t?Y5<tsY5et?pXt8%lttt8vbpXt8%9u'fl%l$vc%9u'vc=4`4*uKtG`4*tFuK<t?3pXt8%t<:557GA8u(vE2vFmvdmvet=t&%hm+tRvGt;%'hm+1",hx "t9Q7>2t)'um't@tSmgkm9u4tSmgkm'tXt'mt*2r%t.m'tXt't>t7%u9t>&tXb*t>b6t7%a*t>b6&tXkvGr'tQvGt%7r't.vGr'omg&'$g$'$9:t@&'$g$'$t@&'tRtgt(3omgt%&'$g&?9'u6?21L><$f4g4vH4vfZf.vIcftOvfbftO_vfcftOvfcftOvf$u4'vI,u4vJ4vI$u4'vI$u4'r.l8t@tBtOvftTu4'vI';vg_[Lu:m++XtauZYu~uZp(n&uZYu~uZYu~uZY(guZpt;;ruZY(guZY(guZ&t(uWu~uZ4Y(guZ3O5?&u~($tK4(,tK9&tE.gv$u;6tEv$7tEt*v$6tEv$6tEv$6(t&u;u[t&;4u;6(t&u;u[t&,tEt_(t&u;t6gto6tEv$46(t&u;6<vKe2?vfP;>$t;&t,,(tat,Z(($v%u<(tDv%v&vh=t3v%u<(tDv%v&vh=t0v%u<(tDt,u=t;`5v%u<2`=65t,u=t;`5v%u<2`$t,u=t;`5t,`6tot@u<(tDv%57t;`5v%8t*''vL>_viH4=vjva9t1i)92%it2%.5u6%t2%.u]uKbt,tuZt2toKv'ux9t,iu^tvt,u^tvtXi2aoi2tSv(9o2tSv(u)$a9tH4$q5$%<9u)$q5$%=:v)ruJu*tS64$u=u6***1",hx "t9E8o0(()m&ft4^F;9tYbtHv*9un=dtu&t)t(:2t,+[,3I5>vjva:t1i):2%it+;tKhv+t1h6tZ`6h7<tst:7tGct1it+;tKiZt+;tK4S;<tFtw'Y8t>,'Y9t>,b2uWvMs8t>teuW:t>ca(uW;t>catEY;t>uz8taY:et>c'?^&Y;_t>c'?^agY;at>ca(uW:t>ca(uW9t>ZthY:t>ZuL6uWvMs7twc'Y7vN8e7uWvMstn^jvMs,:t>ca(3tiu6?43>%<$E86duHe*duHn*uog,G0tB%u>^&%ttvN&%u_v,v.'vN'vO'7G876(u?t0tp(u?;u@&u_:tT&tT&uA4e5t_tX6t+64u_:tj?63",hx "t9H48tOt&]t+v,]hvG]t:mu*]hvG]t:m=%]hvG],,'hvG]upEv0+uMt+tAt(F07dunjv*<v)vEthtM(tKt@I=:(t1u_`tj_txtjvP>t;m3m&'_)+tjttv(?.2tt3tt&$nXvQ+tjt:mt:$tDIC:u7uMuXtCuB=%tAt+&`t(&=uN5;tXi[h%t+h=tX[h%t+h?u+tunt&htoNB;)t1b(u(u>^&%e(vN't=&%aXqtXf5t=:YtXf5vk$6t=t%uy$qu`ts$vbf:uX$u`ts$vbf;:%$u(tbvR?t8%tbvR9<v.qvivN,tXt[u`ts$htb7u[t?",hx "t9I08(t1vPp4'p`*tP:fjuot60v1?*t60v1?d+u)t47t60vQb'v2t084lu,t(B2oXtTfl8'ua(t7HA<v,+t``<[[k4t5&t5$t5t*64u8t.6u8t3u86u88ubu8k6u8;ubu8kv3LA<(t1up`tjv4`u)a)tDatw,'t%t;uA&nt;tp&n(uX&+u)atw4eu.5eu.,,_.2Z6Ze.2Z7Ze.uXZ+u)eu.vQtF4atw74e5t[O68t5uM<%tAh_txtev5ve&8(v6t:v58+tAhv5tm$`t($?htCt:%h8nY%t:8n6tst:uy;Y+:uYuy;Y;u7t8jh8nY%h8nY%t%;v)t3h_txatR8nYt@:_6?t37JB?`vFupvebfvd&Xv6t:$.+uY$.7+vShupuIt%v7vSup=5up=h9_5n5uouo%hup`u9^t*.1",hx "t9G0ubtJgXt3u]>&u]au)5Yt06tT6v't0Y:tj>su_EH@9t0tw3tf)tD&Xtyt>5egXhvT7tw6&tf8t>6ertfu0s7tw7&tf8u1t@tf:u1u2tgtf;u1u2.&tf;u1[>t2uc=u1tJ<t2uc>u1tJ<)?$tfhvT>u1[>uO5uc?u1[>uO$uc?u1t`:uO6uc4u6tw7[5cuO6uc5u6tw7[59uO>,uc5?u1[59uO6uc5>u1[>uO5uc>u1[>uO5uc:u1u2tgtfu0su0au1u2tgtf6>u1[>uO5ucuq289t&F77tKu^t0%u^tnt1tu%uJ3Et7t4tTf:2&u9c&F<uC0tkuDtzt]uDtz3auH3*q'uD*]<u@H5>v8nv.2u>8t;u>9)u(vP=t^vP9Xqqg2t=hm6I3>`uM;%tCuB;uN&tm&8t5t&&tm&t&$t+&9t:tAict&&+ZFt<tVtkuDtztP0uDuH3*q'uD*]73",hx "t9M4<3uxt5t63>`t].urtL3cu7t6urtL3et5t].tvv7t]2h$3h<5$i27*t<nt.27*t<t%t'it<s4p8tQt<s4p=9tHt<q4vb;:v)t0.urtvu=us3p1H:=vjt5t6vK`t].urtL3n`t6urtL3ct5t]2h$t%t'tu$.ur[Jv9u7uIuB<%tC_uN&tm&>uN$tm$;[tC,tm,?[tCat:tAt+ZuIt*u*tAthIv5t1u>=v.2vPv+u(tOvU;)u(tR$v([$4$vKh$u(_pu(bf<<*qt@G59`uItetCvB9uM=+tAi&v:+$u[t?6u,tpu,&",hx "t9u[t?1E05tsc)q''`G69`uIbuNvB<u7t&vB:t+tAi&v:+'ua(t7Tv9])v;2t$5t^;uEtW]t2)tnuEtW;udk6uF.t$7uF.trvV4c.t$9m4c.=uE7uF.8])k6uF.t$6):ltr7):tBt$vV6ept$9m6ep=uEvVl9pt|l9ml9p<t0)lk7):tU6t$k6):luEu0,uF.t$8,):vWt2G<5uP,t4v<u=t4%uk(t=74tK,l)&l[3l%l6E:viu.5u.4p='pa*aZQu0g.tc,.%tcZ.)'vX.[;5t6u95t+t5gtFt+t52r29ct(t`9Yr29bt(t`9Y't+9bt([t+?X4t+uX:t([t+t%uKt+uXat([t+t%uKt+uXat([t+t%uKt+uXbt([t7=Xr29bt(t`9Y:4r2uQtQ8t(t`9Yr2uQtQcct(t`9Yr291",hx "t9I?<2uxt5t6uq`t].3>`t].vgu7t].tnt5t]2uKt0c5$ivYt_bt.vYuW04Y<t'tut%%YG0;vjt5t6urtLvR+t]t0_`t]t3<2$bt)it(I@;u7uIuB<%tC_uN&tm&>uN$tm$;[tC,tm,?[tAt+ZuIet:tAthIvm(t1vPp4'p`*tP:fjgu)5tZus5=ue5h;f76huRbvR+u)5tZu)5tZ*vQbtTtZ*t09564tdtTu,u|H79`vFtbvdtbve'.+uzmtxtetb8[tAhZt1tA%htb+ZE=tB%ev.2t%v.edq%",hx "t9H9:t~auHed00dtIbv2t.b.u3'n)0t''>uFdobv2obv2$obv2u0tv4bu7%(t+Hetrt$4tL]5$tL<'t0toustL't0,tLn2]5to*3t8u)t8t%t)vYtF'tdu$u[t?5It%t=(t^(.u:t=2t;)tJ.tv2t;t;.t+)4Xt+=t$t+t;)u[.7?4t;tx(tFH=<'(tJ4t;tJ5t;8't;tg5(tP(]b[t,tg]$]$]$]$]$]$g5ghtg7Nt%ZvH^7vH^8,f^>t<vHt1tG_ctlt;ZYt;8tlt;<57YtxtG_ctltx8tltx8tltx8tltx9tltxctltx7Yv15Yt76Yt7=:$Y4t+tG_'<&%<t(tG_1",hx "t9E>7twt6$'X$7'kcjk,c2t)ste92tw3,3uwt@u,tTF;9tYvAjv*;dvA9jtuvEuAF07dunjv*<v)vEtpvZ",hx "t9EruxtXtu027uQF5;v8tledqu(u>v[qnjq`tdthNutt5uIuB>%tC&tm&;uNn[tCnt+tCt*htC$tm$?5+t&$tm$t&,h$%[,t+$?:%tA23uQ]uqauRt]23t8]tvt%uR[3t8]tv_tGt]i2>t&$+auSt8rIAvtuMuytCbuNt*[tC_t+tCuB?v7t&uBvF't*htAiet&uT$E86tsu>;v.2t&'toFCvT0tkuDotkuDtz3buH3tz3_dqq+tk3uDZ8vh+1",hx "t9Jv9&tK4$(t(4,(uAg$(t(4,u~=+.tQ4t2g$t28t`&t2g$t2u%v3t2;t:.tQu9+5(t(4$tWh.FA8trv;2t$t|tFt$ktW]t2)tvuEteP4;])v;2t$5t^9uEtW]t2)vguEtW9udktWudt|4:udtWudt|4=6t$kt|4<8uE4t2t$5t289tr4t2t$5t2;;uE6)Xt|6Z)X<=$)Yt.5t2:u6t$kku0u&ud74t2t$3tMt$t$,4Iut`uM7+t&vB<[tCuB8v7t&uBt&&t+'8u*tAi+v:+$[uT$u[t?6FC9vkux?t1iu^vg2%uJuJi$uJ7G69`uIbuNvB<u7t&vB9t+tAi&v:+1",hx "t9FZdun:un=dtuvE&1F;9tYbtHv*9un<dtu&t)t(P>?'(tJ4u~(,+tNuTZ+eft5Z+%uQuTc`%c^uTc`'tbt5a`uftNuTe`ufeft5e`u%.uR&+Z:`uftNuTa`uftNuT,+tNuT,+tNt&tat(t_+tNuTv=`uftNuTat155cn&]3F>55t45t4uPt3t47t4tF5t42tU%tU&vnt~svX*XY0XX0X6_u5vXu5%vX$I0;t~sj^t.tiv2p6.*pt:(0p6)*l,)_*vYtiv2tiv2vY'tiv2u2e2t_F:uC0tkulu)v]tW*ul*ul*q'ul*]6t<?2(.5u+[55",hx "t9G;9t~ui2v>t.2pu3t3uetQt3f<dko27ui2v>k%o2p1J8=$t44X,t4t7Xv<4ukuuvTuP=ruuvTuP54Xv<tyt7uuvTuP64Xv<6vD4uuvTu0t1tdth@t$^t6%'u$Gct~stfsYp*pu.0Yp=u5tfsk%Xp5vnt~svX*XY0XX0X6_u5vXu5%vX,93tViu=td&",hx "t9u,'1F56tKu^t^X3ct1uJi054_^u*G4>vkt2%i+:t1i+t,[tnt1i+tXt`:tXkt%t.i&t<v`u%tdtTu,u|tdtpPC=t5uIuB>%tC&tm&;uN_t+tCchtCat:tC$[n6t:v=Y[n6u*v=Yt&n6u*tR8Yt+Z>ty%$+>Xt+Z>ty%tR8Y=r2Z>5iuytR8Y94t+Z>5t:v=Y[n6t:v=Y[nt:ubc7u2$=uR87in=v)t*tev=Y[n6",hx "t9JB:u7uMuytC_%tCeuNat+tAt+e5vFeX+tR'vDvF&?4ve&?4uztAt+eu+tAet(eu+(F=:fv,+t@`=%%qt,[t@uS>+%qnjq`8vh+'<gtK.ukFA8trv;2t$t|tFt$ktW]t2)tvuEv3uG,I9<vjvalu4*t2%uK;t?Y5;tsY5at?p5u_u`uK;t?uKuR`4*,uK;t?t<tMt<td&",hx "t992twvU1Et7t4tTf=2&u9uztdthuwt@tdtTu,u|u,tpK4<i^=tz^>d00ju?,jtDZjtDZt'tD?tB7tQtD?tBZug^X=l%u*ugtDt%ln^7t'tD?tB7t'tD?tB7Zt'tD?tB74=vg_vK3",hx "t'C4tVdjqq0[[Zv`t(G7:tYbv^uitNtItptItN;v^siumtN3FB6t|tD)tD.etc'YtF$.eg.'YtF'YtF&O;:g)'tg.t7.<tct7.<tct7.<tct7.<$tg:t7.<$5tOt0_v3tO97t0_%uCvi&>7t0_u@&t0_v3uLlu@_Z5uLtBt0_Z5u$>pt0_Z5tT=pvibu|5uLlu@_v3uLlu@_%uC_v3uLlu@_thtZ,uGZTA;gu~($tK4(,tK;&tE.gv$u;u<'?u'tEv&'?fu;v&t&tZv$u<'?u'tEu<'?u'tEu<vJ.u;v&vJ.v$v&u%=t2tEv&u@<v?tE5v&u@<v?tE5v&u@<v?tEtyt=vJ.u;u<vJ.u;t6gtou<'?u'tEtyt=vJ.u;4>t<:43",hx "t9tM(tK%1E:7+`%['ul5'it%tHt(8vh+'H<:tYtSt)tSj$u3$ZstQ$tbuv$%X0t'$Zst'$Zsuo$t'$Zst<=c&E:6tsu>pq5vkv,5G@>s0dt'qtkuDtQtkt)u2dquDtz3atk3tz3nt)qqgtk5uD,HA<`uM6+t&vB9[tCuB=t5t&uB:t:tAi+v:+$[uTZGZu;ru|tE=u%t&tU&t0(uk3h;4uztU%tU1",hx "t9vZ1G7<tYetHt)t%tHv*>untI&t*dtu,t)t(F77tKu^t0%u^3u6%tu%uJ3I8='t;vU(]tP5(vO2]'kv7t,4r+vO8t@3kv73t`t0+]<8t@r+3t`t0+]:;t@3kkc&+3t`rG08tYvAtI&t~vltI&b*vltH'vl*t0;u@E67tstlu(3*adqtoL@tMt$v;g)t3t^uk)t3t^u&tFt^t*&t^kt|+tWtF)+9rt^k4t5=4]+k]+]u4t5]t55t5uq5]u4t5]t55t5tPt56t53_6]+kkn&t5]t57F;9tYbtHv*9un<dtu&t)&",hx "t'G;;vjvalu4*Z0t<=s47tZu)7_st<=st<=suo,t<tZ1FB9trv;]t2)tvuEult+t`t`?%[ke*teS?9t0t45t4uPt3t47t42=$t42tUv<3,t43ukf3et_t4[tUv<4,t45ukf4b5uPhtUc&f.uP59&f.97uPhtUv<5>7uPhtUv<h7t4h6tX$tFtX$gt75gt7hvI7vI7u2Z%8Z48Zn8+8uYtU'8Z>:+8uYtU%tU*tG489`Z7v'=2&JC>trv;]t2)tvuE6uOt$7)9tE)7t2tG&t27v?uRtrvV6uRZt$k6uOt$eokk$6uOt$5>4dtPZ0iuAE;55t44u.<tj<btjvT2t87uG1",hx "t9F5tB%vPl%vPtZ`ust>%(uG%tdthu,u%GA<s0dt'qjltItB0t.vUst'3tOoqolb*qjl*quml$uG,td'7u,'",hx "t9u6t)s,1F>7tWu&$)_u&%tit0`5tT%>[u+Yt:Yt:Hv9tY_tHt)t*vpvC0ovCtI6;t[o7t8uj7t8cvpvC0i,jvCt<v`u$uata5G=;'t;vU(]tP5(3>2]'kv7t,4t0+t,r]v73vmt@3k_:u5,6tMt$t$,7G79tYijhtI5(0oXujXkjhtzhtH'jh*t0:'",hx "t9u6t)s&t%3t)s)v(t(E67tstlu(3*adquSN:>2t$v;:trtWg)t3t^?&t^k5t^u&tFt^ngt^kt|+tWtF)+>rt^k5t^95tW2kt$t$53t*u]3,3t*XuS,vR8X]Z63ct*.2vR3ct*.uX)t.53t*u])t.t*$3t*u]vUE;7uxvavbibditT92tw3,6uGZuG1",hx "t9T;=t3tEru|tEu$'tR%]tq7[]<(tq8t&]<tE5]9t&t$:(tq:t&t$:(6tq9t&t$:(tq8t&ul:(tq7[]<(tq7[]<(tq65]>Ytqv0]>Yu@]ub]3aYtq9$]3atitqub]3aYtqub]4bYvi]5v0]4:Ytq65]>Ytq65]>Ytqc^8t@7[]<(tq8v3]>Ytq>_g)c2v0u2vKt331uG%@t5`'v:[thua(t7Q4:2(()mmmmmmmtlv@)tbv@mZt??Y.%Yv@)tlv@)tlbt8mtbb:f)tb&=uQtO&tB4_uQtO&9f4_uQ_tO&Ybt8mtlbt8t>2`6Yv@)$Ybt8mcdcu$u$;b$vgev'8t3GA6t'vcuvt1tB0tQt1p*ugt1pkt'vcu3vc*^t'vc,HtFt'(luv(tB0tQ(7f;b*(ptN;Z0(lu3(l*^t'(lZvZ",hx "t'?g.tc%ln2.t&],teE4[0l8t~8t*^8tV0vM]uq3tVtV%5Ev0+uMt+tAuAG:9tYtSo$st.ttt't.ttu3ttado$ui$suo'ott7tM(tK%",hx "t9u[t?&v_+?t42tOquSN883t)'um'vUo'tnu?otr4t'tru?t''.tM&t.'.&t.u%t*2&t6&t6um'vDum'7&o'7>4&t6&o'7:5&t6&t6umuf4ouf&t.uf87&ouf&t.uf=t84t6&t6&e2oufu$H:=vjvat8u4*t2`7*t<s4p?*t<s47f:tpf:'v>uoZt<s478t0t0E?7dtPuDt8t]t)['j[>^t]uAF07dunjv*<v)vEtpF;9v8ttu(u>l%u>vCqqt(t=",hx "t9G=:f'm&t>5mp4t>6t>u?t>r_t)uovQu%t>1GC<v,+t``u*[k3t($4t(t85kt0(54ht*tDt0(54hn2$kkZt0(hA4tVdjqq0$3P89t5uI&tm&=`vS[$tmv=u7vS[cv7vShe.vde.`uY,_)+uYte;)+uzte;)>`vShe.+tRv@vdv@`uYup?X[auzup?X:t&avSu*bcY>t5vShv@+t@tj:tRe.+Zhv@+&FA9tctc$.t*&t4tQt<(74u*cvRu9cou9c$Mt%$t45t4uPt3t47t4u0$t42tU$Xu%X,X':guutU&Yt7Y466g9)t_g76g9)u|g76g2?(t_g66g9)t_g66g9)t_g2tU^9,6g9)t_g4:4bZ6Ju:$t45t45uu5Xtouu$Xu=uue$X`tUZX`$Xtouu<t3X`tU$Xt%ruutU%tUZE=56u.$vHt*tj?_tj<s2tG",hx "t'tM(tK%1Hvmt=()mtRv4vet%fvd%tGvFv4vFt%t?t;%'hv4`Z9tOuQt+I8;qtj&a&&p:$&pa$&tl:ZtOtO:ZtO5u_:,tOX:&&p:&&pt84u_r&p:u$$tM3N8?kf*vHc^tMl(8tbe2uQ(8ZftMt8(ltte2l(8tbe2l(8tbegtyn);t3tyn)et3ty':);tFty':vRegtyn);gtyn);gtyn)tM_^;+3l(8tbet34tyn);gtG6?t7EFe]%+[u+tatJl2(=tatJ9t1(=u~tJ9t1t;;tatJ9t1t;;tatJl2(=tatJl2(=tatJ7uSavW]ct13atB]3ct1vU>p]3ct1v(=p4]$7uSavW]ZuSavW],t@:>t?r7t@:>tsrlg6e=t?rlg7;tZ_+r7t@7;=t?r6t@:>t?r6t@:>t?vInv[05nv[*6v4>v+ctFt*t%v+<2cgnv[04nv[043l2(=tatJ67uSavW],6t@:>t?r74nv[0=ctyu_8ctnvM4tv$;4?tFE$d*vYgtjuCgZuata",hx "t9td'1F84uPuAftZ>2n^>2_tV8vht=u+v8H?<2tVdot)5t'ktF<*v]v]t)5?*Z027;dv]v]t)5?d2uCv]t39jv]bov]tJ3uG&tdtTE46dtPt)['it%tHuAuGZtd'",hx "t9u,'Zv`t(u,'vO4tVt~t~t@H9>v8u>^&%$tD%$t?mu+$9t?mu+$vCu+$9t;mtXt*t^m%5HA;f'm,',f7',fZv,.2,ltP%t[',t[',frat)uovQu|',t[H6<'t;tP+3u$+t_&krt,t7t73e%t7rt,t7t73a+t7krvg2&rt,t7k$rt,t77td'",hx "t9F:7tKu^v:uJuJtSi%uJt09'1E<5((t^(.gt;txtxC4tVdjqq0[[3ua(t7G7:tYbv^uitNtItptItN;v^siumetDH5;t~sj^<u5XtZ*Y=uep5Zsp6,sYtZnu5XtZu5&XtZ,G89s0tkud05t$*6tw*6vNt.ud0ud0qu%t$0h_t&7H79vqd5atTYa$5vH:,X.aZXvXatTYatTYau?u_r5Yau$$?1",hx "t98v_tP&1Hu0tYi5u&06u&*6&(*7&(tS6&(usu&05u&0iu@u&0t0?t&8v_tPthht)u%EvD+uM>%tAtTF@9s0tkud05t$ustJ*6tJkqud0qu%t$utt4iqu=IC>`uM;%tCuB;+tAhb)vdb)ve$<txteb)9[tAhbt^tActRb)+1",hx "t'td&tetVt@vZ5uwtoE@5t)sj^ootD:jj^ok%jtD7FB:tYvAt'v*tI&t*tHvl8t)tuvEth93tVq%",hx "t94d0^?4dtPt*dit(FB<v8m3t>dtP;v.tPv[tPv[u(e.quSF77tKu^t0%u^3u6%tu%uJ4I0?t>t6_^3k.vL'k+o[59t)kt+?)0h?)*t:7t*(atR?)<dkt+?)0kbt(?t2G=:$t44X,t4rXv<t<4u.uUrt7c&t74>^luUt%ja*a,G9uk.tc$.u%.,.'7v1%uC4X4tL5X4u6tL2uC2l7S08r.tc$.crt4tQ4u]3tfXu0)tLubt1:)'X9tt(8)tL:tt(8uF'Xu9ubt1:uF]Xu97Xu0)tL6X>p3tfX>p'XubtDcptL9$tDcp='Xu98tt7t%Y5tfbtt7t%Y<t0XptQ7X>p86tLu96X>ptLu9t37Xu0)tL8,X>ptL",hx "t'Et3tsu>9v.%cvh+%HC:v8u>^,%ZfvbZfc^($t1$l(Y>(u`Zt[%ZfquA%Zfr84]Mc2t)st2t%$t3tB>,t3tBt%uYXYt%uYhYl>$t3tB>$t3tB>u=3t%uLv5t%v=v5^>,t8a(t%,t8v+6t%uLv5t%uLv5v4t.23h5tB>Z4:v5t%':n]4G$7u.to6tsv0t=+56t;ubt=+9$6txtG_%tG_$G;9vktSt3d47t8us7:ue5u*tB9tpt8u)7t8tHu$7t8u)79Z47;[0u5g1",hx "t9HvOtYtSj$tI$st.ttu3$uet.$`0t'$`u3$uSujte3uHt~2.tdt&u,'3M8?v8t=tX9fu+9f$%ct[t=vbatF`,%vLl+7nt?vLuQ+7ntsvLuQu43nt?vLl+7nt?vLl+7nt?ag%9ftX9fu(r%9f5l+7nt?vLhb4t`O78t)0d<t)d?jddou:v>t.u:pu3(9v>tQ(cv>t'2ap<t.ou:v>t.u:p88tIu:7uiu:7uiu:v>d<9ddt.juttMtIutv+0o6_tMuj6_tMndjuttMtzuttMtzuttMtzuttM*t3ou:v><iuttM*8_nt*;'=t%6vK$uwtoE;5dun;uHtuvEtpvZ",hx "t'vZ1E97tVdjg?*vQg9dvQ+%vZt<v`u$uG$8v_tPuAuG1",hx "t9=)t1`%%Zv`t(u[t?3u,u%E84t)2tz2kt)2uH2*^t)2$F=uC0',]X64tL,43tO6]X6]Xu`,']X66uata7uata",hx "t9uata1G28qtPjt63ot6'ou83t.t5c^t]jt6t]%jt6[G28qtPjt63ot6'ou83t.t5c^t]jt6t]%jt6rG?:qvrst.tlu3&uetQ&f;tHt.tl>dio,si%o,tD:[0u5uAuwu=G57j^jou?t.j^jou?uju?t*dou?tIu?tji^j3ou?'U??3t.ft.t't[uvuh0uguh=tV0uguh<d00uguh;t)tQuh0tQuh0uUt[ue;*t[f:ouguh*uguh*uUt[ueuUuht%t'uUuhetQuUuh_:u3(6it't[uvfukuvf7iuUf7t(*uUfv0(0;*fv0(9=uvt[tSt'(6tSt't[uvt[tSt'%,tSt't[*%t't[1",hx "ZE=8qtkv_tVdtk2t.dddd%",hx "8_)t1t=`uwuSE=6t$t$]u7t`t5u*[kb*,4S:tMt$t$t|v(uF'vV3t%u'uFvJm3t%ft|=vJmt,tG,v?7tvmt,tN,v?7vKmvNt8,v?7vOmvNt8nt_v?7tvmt,tN,v?7uqm3v4t%5t|=t&Y:2vV3t%u'uFu%8atB:t38atBat38Z;p2?'tyalZa+Y:g8atB:+Y:+u2m3t%u'uF':&8atB:t3IC<tYiou$ujtc0t.&'u3&t1uv&t1cu3&t1uv&t1t*t)t'&t1tIu$tH23ou$*3t'&t1*t0=vi6Huqv8t=u+5t[%u.Zt=tw7`)t8$%u.u+u.q'u+u.]:2t<J@8tFu.$6t[u]u%u`Zu]';uAt=<*6u]$4u`Zu]v=g6t=<usu`,4u`,u`,=r6t=<*tvtb:uLZt*4u_<*t*t'_*_*F7;qtkv_tVdtk2t.dddtkvM*dddd%",hx "t9EE;;t7)u&$)t%u&,)v4tWto3,t_u23,46u2)t:tit_vO3teYt:ti6)t%t%g)$)tT)tpv6;tgv68t&&;.&v68t&t(9.5[t(9t&tht*t2[th:t&tht*)<$v6[ti7v6;tg[tpv6;tg[t(ti6)t%a6tW,[evW[Z[etBulct&up9p4[abt&b%t*Y4[eat&b%t*Y=&[e%ti8t&_t*YtMul%ti6[evWv:tit|n;u&%Yt:Yt:=Zv6;tg[uL,[evWv:?731E04uxt8u4*g%?4duHtSithM892tVtkotn^ujtnuet'uFf5t'3v4eu3t,tG*ugt,tGb2*uUt,tGb(0uUt,tNb2*uUt,tGb2kt.]tG*ugt,tGb2ujtn^et)qotn^*u(3otn^usugt,tGb2&E=6t)sjtDZj2tfjt3?2Zkv3uwtotdtpuG1",hx "t)uata1E>5+`t(%t(%tR%_5t+t=jt(G>7o^tSt.u't.o^tSt.u'u3u'bt)t.u'uju'tjtS^tS3t.u'1",hx "Z<4tVt~t~%",hx "t'vC^t=1A4tKt2%it(vn```t5tR)`Zgft16g%bt,i+:t1thL=>u&u&$ur't,6urn'urti6t,v+]u=t,;tEt,7t,5>^&t,59v,XtG$t,5av,XtGt*$t,u+ti8'u=tGn2]`ti6t,v+]`ti$6t,v+]%5uata6G7:tYbv^uitNtItptItN;v^siumtN7G7:tYbv^uitNtItptItN;v^siumtN",hx "jH:;t~sj^<u5XtZ*Y=uep5tbctb6,vcYtZnu5XtZu5&XtZ$uwtoF$jX0oXtI.tIXt'jX0^jtfF4u<%)l+6*t$0)<2%t$02uCt$",hx "o>[0tz$tj.G0>tYvAtz$o_v)t)_tHt)t*tHedit(G0>tYvAtz$o_v)t)_tHt)t*tHedithN4?trv;r)t0)v()v(t2tr6t2_5t$vYt|ht$7)v9Xt$vVv9XtrvVu*;XtW9amu[9XtW9amu*aX>u&9Z)v9Xt$7)v9Xt$vYcZ)v9Xt$vOt%v07vZ",hx "dGB8t~st2_$t3Y_,t3vH<uYX._$t3Y_$t3Y_^6_^3h5Y_^EE7:r)'.t|&t66)&tc9t<tgv'tc9u2uVt%ta.9u2tO.=2tc9t<tgv'tc9t<tgv'tc9u2uVt*)v19uquVt*)tc9uquV'<t2.8bu0uV'et2.8bu:uVm:t2.8bvMuVm:)>t0.8bu0uV'et2.8bu:uVvs)v19uquVt*)?6v19[uC8uVt*)v19r:_uRus:_;ue5:aa:f<t3:_uRZ02uC4:_uRtjuCr7tgv'tc9t08uVt*)v19vKuL_uR*v'"]
def aIJ:B (R×B (R×bG)):=[(234,[(10,[10])]),(235,[(14,[19])]),(263,[(8,[10])]),(299,[(12,[19])]),(317,[(7,[6])]),(340,[(18,[18])]),(392,[(7,[12])])]
noncomputable def pol(f:ck):mh:=match lk (E5 [] aDI (f/8)) (f%8)with|O p=>(match lk aIJ f with|O z=>{pP (dhx p)with qV:=z}|X=>pP (dhx p))|X=>⟨[],[],[],[]⟩
noncomputable def FJ(P:aA)(tk:bG):Code->Ks
 |.region id u _=>[(id,BI P tk u.toList u.toList)]
 |.seq a b=>FJ P tk a++FJ P tk b
 |.cond _ a b=>FJ P tk a++FJ P tk b
 |.block _ a=>FJ P tk a
 |.loop a=>FJ P tk a
 |_=>[]
noncomputable def Ff:Code->B (R×jQ)
 |.region id u _=>[(id,BK u)]
 |.seq a b=>Ff a++Ff b
 |.cond _ a b=>Ff a++Ff b
 |.block _ a=>Ff a
 |.loop a=>Ff a
 |_=>[]
noncomputable def rgF(fn:Func)(tk:bG):Ks:=match fn.body with|O c=>FJ af tk c|X=>[]
noncomputable def rgG(fn:Func)(i:R):jQ:=match fn.body with|O c=>(match lk (Ff c) i with|O x=>x|X=>[])|X=>[]
abbrev sV(fn:Func)(tk:bG)(h:{b:Ks//rgF fn tk=b}:=by refine⟨?_,?_⟩;rotate_left;(conv=>lhs;cbv)):Ks:=h.1
def rgL(l:Ks)(i:R):jh:=match lk l i with|O (O x)=>x|_=>[]
abbrev rg(l:Ks)(i:R)(h:{b:jh//rgL l i=b}:=by refine⟨?_,?_⟩;rotate_left;(conv=>lhs;whnf)):jh:=h.1
abbrev Tp(fn:Func)(i:R)(h:{b:jQ//rgG fn i=b}:=by refine⟨?_,?_⟩;rotate_left;(conv=>lhs;reduce)):jQ:=h.1
noncomputable def qC:=sV Tryz.f39 [0,1,2,3,42,43,44,45]
noncomputable def X3:=rg qC 0
noncomputable def acF:=rg qC 1
noncomputable def Uc:=rg qC 2
noncomputable def adn:=rg qC 3
noncomputable def Xv:=rg qC 4
noncomputable def Yf:=rg qC 5
noncomputable def aFn:=rg qC 6
noncomputable def Z7:=rg qC 7
noncomputable def I3:CC:=.seq (.bh Uc (O ([2,3,12,13,14,15],[2,3]))) (.seq (.cond (.t 15) (.skip) (.exit 0)) (.seq (.block 1 (.seq (.bh adn (O ([2,3,7,12,13,14],[2,3,7]))) (.seq (.bh Xv (O ([2,3,8,12,13,14],[2,3]))) (.seq (.bh Yf (O ([2,3,8,12,13,14,21],[2,3]))) (.cond (.t 21) (.seq (.bh aFn (O ([4,5],[]))) (.ret)) (.skip)))))) (.bh Z7 (O ([2,3,12,13,14],[2,3])))))
noncomputable def Ux:CC:=.loop (O ([2,3,12,13,14],[2,3])) I3
def aEa:LE Ux I3 ([2,3,12,13,14],[2,3]):=rn
noncomputable def XB:=rg qC 8
noncomputable def azZ:=rg qC 9
noncomputable def Xn:=rg qC 10
noncomputable def abX:=rg qC 11
noncomputable def adg:=rg qC 12
noncomputable def alu:=rg qC 13
noncomputable def ao0:=rg qC 14
noncomputable def Wa:lU:=⟨.seq (.bh X3 (O ([2,3],[2,3]))) (.seq (.seq (.bh acF (O ([2,3,12,13,14],[2,3]))) (.block 0 (Ux))) (.seq (.seq (.bh XB (O ([2,3,41],[2,3]))) (.cond (.t 41) (.seq (.bh azZ (O ([4,5],[]))) (.ret)) (.skip))) (.seq (.bh Xn (O ([9],[45]))) (.seq (.bh abX (O ([9],[45]))) (.seq (.seq (.bh adg (O ([9,53],[45]))) (.cond (.t 53) (.seq (.bh alu (O ([4,5],[]))) (.ret)) (.skip))) (.seq (.bh ao0 (O ([4,5],[]))) (.ret))))))),58,[.t 4,.t 5]⟩
def m39:lz af (pol 39) 39=O Wa:=aH
noncomputable def Ab:=sV Tryz.f72 [26,60]
noncomputable def QS:=rg Ab 0
noncomputable def adh:=rg Ab 1
noncomputable def aks:=rg Ab 2
noncomputable def ajy:=rg Ab 3
noncomputable def agT:=rg Ab 4
noncomputable def My:=rg Ab 5
noncomputable def TK:=rg Ab 6
noncomputable def Ur:=rg Ab 7
noncomputable def aom:=rg Ab 8
noncomputable def P3:=rg Ab 9
noncomputable def EO:CC:=.seq (.bh My (O ([0,1,34,35,36,37],[]))) (.seq (.cond (.t 37) (.skip) (.exit 0)) (.seq (.block 1 (.seq (.bh TK (O ([0,1,4,5,34,35,36],[]))) (.seq (.bh Ur (O ([0,1,4,34,35,36,57],[]))) (.cond (.t 57) (.bh aom (O ([0,1,34,35,36],[]))) (.skip))))) (.bh P3 (O ([0,1,34,35,36],[])))))
noncomputable def MA:CC:=.loop (O ([0,1,34,35,36],[])) EO
def axF:LE MA EO ([0,1,34,35,36],[]):=rn
noncomputable def QI:lU:=⟨.seq (.seq (.bh QS (O ([0,1,11],[]))) (.cond (.t 11) (.ret) (.skip))) (.seq (.seq (.bh adh (O ([0,1,20],[]))) (.cond (.t 20) (.seq (.bh aks (O ([],[]))) (.ret)) (.skip))) (.seq (.bh ajy (O ([0,1],[]))) (.seq (.bh agT (O ([0,1,34,35,36],[]))) (.block 0 (MA))))),66,[]⟩
def m72:lz af (pol 72) 72=O QI:=aH
noncomputable def wY:=sV Tryz.f143 [29,42,70,97]
noncomputable def Rt:=rg wY 0
noncomputable def ada:=rg wY 1
noncomputable def aib:=rg wY 2
noncomputable def aoM:=rg wY 3
noncomputable def afq:=rg wY 4
noncomputable def ajJ:=rg wY 5
noncomputable def afC:=rg wY 6
noncomputable def NU:=rg wY 7
noncomputable def QA:=rg wY 8
noncomputable def R0:=rg wY 9
noncomputable def ae1:=rg wY 10
noncomputable def Tq:=rg wY 11
noncomputable def Fe:CC:=.seq (.bh NU (O ([0,1,2,7,78,79,80,81],[7]))) (.seq (.cond (.t 81) (.skip) (.exit 0)) (.seq (.block 1 (.seq (.bh QA (O ([0,1,2,7,8,9,78,79,80],[7,9]))) (.seq (.bh R0 (O ([0,1,2,7,8,78,79,80,93],[7]))) (.cond (.t 93) (.bh ae1 (O ([0,1,2,7,78,79,80],[7]))) (.skip))))) (.bh Tq (O ([0,1,2,7,78,79,80],[7])))))
noncomputable def NQ:CC:=.loop (O ([0,1,2,7,78,79,80],[7])) Fe
def aJC:LE NQ Fe ([0,1,2,7,78,79,80],[7]):=rn
noncomputable def Rf:lU:=⟨.seq (.seq (.bh Rt (O ([0,1,2,15],[]))) (.cond (.t 15) (.ret) (.skip))) (.seq (.seq (.bh ada (O ([0,1,2,24],[]))) (.cond (.t 24) (.seq (.xQ aib (Tp Tryz.f143 2) (O ([],[]))) (.ret)) (.skip))) (.seq (.bh aoM (O ([0,1,2,6],[6]))) (.seq (.xQ afq (Tp Tryz.f143 4) (O ([0,1,2,7],[7]))) (.seq (.bh ajJ (O ([0,1,2,7],[7]))) (.seq (.bh afC (O ([0,1,2,7,78,79,80],[7]))) (.block 0 (NQ))))))),103,[]⟩
def axr:lz af (pol 143) 143=O Rf:=aH
noncomputable def aeN:=sV Tryz.f145 []
noncomputable def aky:=rg aeN 0
noncomputable def aeG:=rg aeN 1
noncomputable def ags:lU:=⟨.seq (.bh aky (O ([0,1],[]))) (.seq (.bh aeG (O ([4],[]))) (.ret)),9,[.t 4]⟩
def aGi:lz af (pol 145) 145=O ags:=aH
noncomputable def anJ:=sV Tryz.f197 []
noncomputable def ae0:=rg anJ 0
noncomputable def aet:=rg anJ 1
noncomputable def ajm:lU:=⟨.seq (.bh ae0 (O ([1,2,3],[3]))) (.seq (.bh aet (O ([6],[]))) (.ret)),12,[.t 6]⟩
def aI3:lz af (pol 197) 197=O ajm:=aH
noncomputable def Ej:=sV Tryz.f201 []
noncomputable def Xu:=rg Ej 0
noncomputable def Y6:=rg Ej 1
noncomputable def RW:=rg Ej 2
noncomputable def ac8:=rg Ej 3
noncomputable def Z8:=rg Ej 4
noncomputable def acP:=rg Ej 5
noncomputable def acN:=rg Ej 6
noncomputable def HO:CC:=.seq (.bh RW (O ([0,1,7,8,9],[]))) (.seq (.cond (.t 9) (.skip) (.exit 0)) (.seq (.block 1 (.seq (.bh ac8 (O ([0,1,5,7,8],[]))) (.seq (.bh Z8 (O ([0,1,5,7,8,16],[]))) (.cond (.t 16) (.seq (.bh acP (O ([4],[]))) (.ret)) (.skip))))) (.bh acN (O ([0,1,7,8],[])))))
noncomputable def L3:CC:=.loop (O ([0,1,7,8],[])) HO
def aFH:LE L3 HO ([0,1,7,8],[]):=rn
noncomputable def abZ:=rg Ej 7
noncomputable def Ue:lU:=⟨.seq (.bh Xu (O ([0,1],[]))) (.seq (.seq (.bh Y6 (O ([0,1,7,8],[]))) (.block 0 (L3))) (.seq (.bh abZ (O ([4],[]))) (.ret))),19,[.t 4]⟩
def akI:lz af (pol 201) 201=O Ue:=aH
noncomputable def yr:=sV Tryz.f234 [4,5,10,29]
noncomputable def afs:=rg yr 0
noncomputable def ajE:=rg yr 1
noncomputable def ann:=rg yr 2
noncomputable def Qz:=rg yr 3
noncomputable def aco:=rg yr 4
noncomputable def Y4:=rg yr 5
noncomputable def adt:=rg yr 6
noncomputable def ado:=rg yr 7
noncomputable def ab5:=rg yr 8
noncomputable def WE:=rg yr 9
noncomputable def I6:CC:=.seq (.bh Qz (O ([1,5,12,13,14],[10]))) (.seq (.cond (.t 14) (.skip) (.exit 0)) (.seq (.block 1 (.seq (.bh aco (O ([1,5,6,12,13],[10]))) (.seq (.bh Y4 (O ([1,5,6,7,8,12,13],[10]))) (.seq (.seq (.bh adt (O ([1,5,6,7,12,13,23],[10]))) (.cond (.t 23) (.bh ado (O ([1,5,6,7,12,13],[10]))) (.skip))) (.bh ab5 (O ([1,5,12,13],[10]))))))) (.bh WE (O ([1,5,12,13],[10])))))
noncomputable def Q3:CC:=.loop (O ([1,5,12,13],[10])) I6
def awD:LE Q3 I6 ([1,5,12,13],[10]):=rn
noncomputable def aj7:=rg yr 10
noncomputable def aif:lU:=⟨.seq (.bh afs (O ([0,1],[]))) (.seq (.bh ajE (O ([1,5],[10]))) (.seq (.seq (.bh ann (O ([1,5,12,13],[10]))) (.block 0 (Q3))) (.seq (.wb [10] aj7 (O ([4],[10]))) (.ret)))),30,[.t 4]⟩
def aAD:lz af (pol 234) 234=O aif:=aH
noncomputable def tX:=sV Tryz.f235 [12,13,19,58]
noncomputable def anq:=rg tX 0
noncomputable def aps:=rg tX 1
noncomputable def ajC:=rg tX 2
noncomputable def abT:=rg tX 3
noncomputable def aff:=rg tX 4
noncomputable def ao1:=rg tX 5
noncomputable def ajG:=rg tX 6
noncomputable def NY:CC:=.seq (.bh abT (O ([1,3,4,5,13,20,21,22,23],[19]))) (.seq (.cond (.t 23) (.skip) (.exit 0)) (.seq (.block 1 (.seq (.bh aff (O ([1,3,4,5,13,14,15,20,21,22],[19]))) (.bh ao1 (O ([1,3,4,5,13,20,21,22],[19]))))) (.bh ajG (O ([1,3,4,5,13,20,21,22],[19])))))
noncomputable def PJ:CC:=.loop (O ([1,3,4,5,13,20,21,22],[19])) NY
def aCI:LE PJ NY ([1,3,4,5,13,20,21,22],[19]):=rn
noncomputable def amK:=rg tX 7
noncomputable def SB:=rg tX 8
noncomputable def Z0:=rg tX 9
noncomputable def YR:=rg tX 10
noncomputable def amu:=rg tX 11
noncomputable def ah7:=rg tX 12
noncomputable def aaL:=rg tX 13
noncomputable def HS:CC:=.seq (.bh SB (O ([5,13,42,43,44],[19]))) (.seq (.cond (.t 44) (.skip) (.exit 2)) (.seq (.block 3 (.seq (.bh Z0 (O ([5,13,16,42,43],[19]))) (.seq (.bh YR (O ([5,13,16,42,43,50],[19]))) (.cond (.t 50) (.seq (.bh amu (O ([5,13,42,43],[19]))) (.bh ah7 (O ([5,13,42,43],[19])))) (.skip))))) (.bh aaL (O ([5,13,42,43],[19])))))
noncomputable def SQ:CC:=.loop (O ([5,13,42,43],[19])) HS
def avv:LE SQ HS ([5,13,42,43],[19]):=rn
noncomputable def anN:=rg tX 14
noncomputable def ahp:lU:=⟨.seq (.bh anq (O ([0,1,2,3,4,5],[]))) (.seq (.bh aps (O ([1,2,3,4,5,13],[19]))) (.seq (.seq (.bh ajC (O ([1,3,4,5,13,20,21,22],[19]))) (.block 0 (PJ))) (.seq (.seq (.bh amK (O ([5,13,42,43],[19]))) (.block 2 (SQ))) (.seq (.wb [19] anN (O ([12],[19]))) (.ret))))),59,[.t 12]⟩
def aJP:lz af (pol 235) 235=O ahp:=aH
noncomputable def Cr:=sV Tryz.f263 [4,5,10,25]
noncomputable def aiu:=rg Cr 0
noncomputable def ajZ:=rg Cr 1
noncomputable def ag9:=rg Cr 2
noncomputable def RB:=rg Cr 3
noncomputable def U3:=rg Cr 4
noncomputable def Zz:=rg Cr 5
noncomputable def al6:=rg Cr 6
noncomputable def abh:=rg Cr 7
noncomputable def I4:CC:=.seq (.bh RB (O ([5,11,12,13,14],[10]))) (.seq (.cond (.t 14) (.skip) (.exit 0)) (.seq (.block 1 (.seq (.bh U3 (O ([5,6,7,11,12,13],[10]))) (.seq (.bh Zz (O ([5,6,7,11,12,13,19],[10]))) (.cond (.t 19) (.bh al6 (O ([5,11,12,13],[10]))) (.skip))))) (.bh abh (O ([5,11,12,13],[10])))))
noncomputable def Ry:CC:=.loop (O ([5,11,12,13],[10])) I4
def aDH:LE Ry I4 ([5,11,12,13],[10]):=rn
noncomputable def amY:=rg Cr 8
noncomputable def aeX:lU:=⟨.seq (.bh aiu (O ([0,1],[]))) (.seq (.bh ajZ (O ([0,5],[10]))) (.seq (.seq (.bh ag9 (O ([5,11,12,13],[10]))) (.block 0 (Ry))) (.seq (.wb [10] amY (O ([4],[10]))) (.ret)))),26,[.t 4]⟩
def ast:lz af (pol 263) 263=O aeX:=aH
noncomputable def tF:=sV Tryz.f291 [10,39,42]
noncomputable def ak7:=rg tF 0
noncomputable def aki:=rg tF 1
noncomputable def aoI:=rg tF 2
noncomputable def Qu:=rg tF 3
noncomputable def ZG:=rg tF 4
noncomputable def abk:=rg tF 5
noncomputable def aa7:=rg tF 6
noncomputable def aac:=rg tF 7
noncomputable def IN:CC:=.seq (.bh Qu (O ([2,7,15,16,17,18],[14]))) (.seq (.cond (.t 18) (.skip) (.exit 0)) (.seq (.block 1 (.seq (.bh ZG (O ([2,7,8,9,15,16,17],[14]))) (.seq (.bh abk (O ([2,7,9,15,16,17,25],[14]))) (.cond (.t 25) (.bh aa7 (O ([2,7,15,16,17],[14]))) (.skip))))) (.bh aac (O ([2,7,15,16,17],[14])))))
noncomputable def S4:CC:=.loop (O ([2,7,15,16,17],[14])) IN
def awq:LE S4 IN ([2,7,15,16,17],[14]):=rn
noncomputable def am9:=rg tF 8
noncomputable def agw:=rg tF 9
noncomputable def Pf:=rg tF 10
noncomputable def ZX:=rg tF 11
noncomputable def acf:=rg tF 12
noncomputable def X6:=rg tF 13
noncomputable def XY:=rg tF 14
noncomputable def Hx:CC:=.seq (.bh Pf (O ([10,30,31,32,33],[14]))) (.seq (.cond (.t 33) (.skip) (.exit 2)) (.seq (.block 3 (.seq (.bh ZX (O ([10,11,12,30,31,32],[14]))) (.seq (.bh acf (O ([10,11,30,31,32,38],[14]))) (.cond (.t 38) (.bh X6 (O ([10,30,31,32],[14]))) (.skip))))) (.bh XY (O ([10,30,31,32],[14])))))
noncomputable def Su:CC:=.loop (O ([10,30,31,32],[14])) Hx
def aBi:LE Su Hx ([10,30,31,32],[14]):=rn
noncomputable def aii:=rg tF 15
noncomputable def ae3:lU:=⟨.seq (.bh ak7 (O ([0,1,2],[]))) (.seq (.bh aki (O ([1,2,7],[14]))) (.seq (.seq (.bh aoI (O ([2,7,15,16,17],[14]))) (.block 0 (S4))) (.seq (.bh am9 (O ([7,10],[14]))) (.seq (.seq (.bh agw (O ([10,30,31,32],[14]))) (.block 2 (Su))) (.seq (.bh aii (O ([6],[]))) (.ret)))))),45,[.t 6]⟩
def awW:lz af (pol 291) 291=O ae3:=aH
noncomputable def ux:=sV Tryz.f299 [2,3,36,39,41]
noncomputable def aeF:=rg ux 0
noncomputable def ahr:=rg ux 1
noncomputable def ahP:=rg ux 2
noncomputable def ac1:=rg ux 3
noncomputable def apn:=rg ux 4
noncomputable def ahJ:=rg ux 5
noncomputable def agc:=rg ux 6
noncomputable def af6:=rg ux 7
noncomputable def aaA:=rg ux 8
noncomputable def agB:=rg ux 9
noncomputable def apw:=rg ux 10
noncomputable def aiF:=rg ux 11
noncomputable def MR:CC:=.seq (.bh aaA (O ([1,3,5,12,13,26,27,28,29],[1,19]))) (.seq (.cond (.t 29) (.skip) (.exit 2)) (.seq (.block 3 (.seq (.bh agB (O ([1,3,5,9,12,13,26,27,28],[1,19]))) (.bh apw (O ([1,3,5,12,13,26,27,28],[1,19]))))) (.bh aiF (O ([1,3,5,12,13,26,27,28],[1,19])))))
noncomputable def Pt:CC:=.loop (O ([1,3,5,12,13,26,27,28],[1,19])) MR
def aBH:LE Pt MR ([1,3,5,12,13,26,27,28],[1,19]):=rn
noncomputable def akc:=rg ux 12
noncomputable def aoh:=rg ux 13
noncomputable def Og:CC:=.seq (.bh ac1 (O ([1,3,12,13,14],[1]))) (.seq (.cond (.t 14) (.skip) (.exit 0)) (.seq (.block 1 (.seq (.bh apn (O ([1,3,4,12,13],[1]))) (.seq (.bh ahJ (O ([1,3,4,5,12,13],[1,19]))) (.seq (.bh agc (O ([1,3,5,6,12,13],[1,19]))) (.seq (.seq (.bh af6 (O ([1,3,5,12,13,26,27,28],[1,19]))) (.block 2 (Pt))) (.wb [19] akc (O ([1,3,12,13],[1])))))))) (.bh aoh (O ([1,3,12,13],[1])))))
noncomputable def P6:CC:=.loop (O ([1,3,12,13],[1])) Og
def aHT:LE P6 Og ([1,3,12,13],[1]):=rn
noncomputable def aoE:=rg ux 14
noncomputable def aoJ:lU:=⟨.seq (.bh aeF (O ([1],[1]))) (.seq (.bh ahr (O ([1,3],[1]))) (.seq (.seq (.bh ahP (O ([1,3,12,13],[1]))) (.block 0 (P6))) (.seq (.bh aoE (O ([2],[]))) (.ret)))),42,[.t 2]⟩
def aAV:lz af (pol 299) 299=O aoJ:=aH
noncomputable def TY:=sV Tryz.f300 [12,25,120,123,136,190,193,204]
noncomputable def ajg:=rg TY 7
noncomputable def Ep:=rg TY 8
noncomputable def amh:=rg TY 10
noncomputable def Sb:=rg TY 19
noncomputable def DN:=sV Tryz.f317 []
noncomputable def alJ:=rg DN 0
noncomputable def ahx:=rg DN 1
noncomputable def ajI:=rg DN 2
noncomputable def Yt:=rg DN 3
noncomputable def ajU:=rg DN 4
noncomputable def afM:=rg DN 5
noncomputable def ajV:=rg DN 6
noncomputable def MG:CC:=.seq (.bh Yt (O ([3,8,9,10],[6]))) (.seq (.cond (.t 10) (.skip) (.exit 0)) (.seq (.block 1 (.seq (.bh ajU (O ([3,4,8,9],[6]))) (.bh afM (O ([3,8,9],[6]))))) (.bh ajV (O ([3,8,9],[6])))))
noncomputable def acA:CC:=.loop (O ([3,8,9],[6])) MG
def asm:LE acA MG ([3,8,9],[6]):=rn
noncomputable def afy:=rg DN 7
noncomputable def aja:lU:=⟨.seq (.bh alJ (O ([0],[]))) (.seq (.bh ahx (O ([3],[6]))) (.seq (.seq (.bh ajI (O ([3,8,9],[6]))) (.block 0 (acA))) (.seq (.wb [6] afy (O ([2],[6]))) (.ret)))),18,[.t 2]⟩
def atB:lz af (pol 317) 317=O aja:=aH
noncomputable def rS:=sV Tryz.f347 []
noncomputable def Ze:=rg rS 0
noncomputable def Y9:=rg rS 1
noncomputable def acj:=rg rS 2
noncomputable def NF:=rg rS 3
noncomputable def QU:=rg rS 4
noncomputable def PK:=rg rS 5
noncomputable def aa2:=rg rS 6
noncomputable def aa5:=rg rS 7
noncomputable def Ud:=rg rS 8
noncomputable def Zq:=rg rS 9
noncomputable def abo:=rg rS 10
noncomputable def an6:=rg rS 11
noncomputable def agx:=rg rS 12
noncomputable def Ie:CC:=.seq (.bh Ud (O ([0,3,4,6,18,19,20,37,38,39],[]))) (.seq (.cond (.t 39) (.skip) (.exit 2)) (.seq (.block 3 (.seq (.bh Zq (O ([0,3,4,6,7,18,19,20,37,38],[]))) (.seq (.bh abo (O ([0,3,4,6,18,19,20,37,38,44],[]))) (.cond (.t 44) (.seq (.bh an6 (O ([0,3,6,18,19,20],[]))) (.exit 2)) (.skip))))) (.bh agx (O ([0,3,4,6,18,19,20,37,38],[])))))
noncomputable def Rn:CC:=.loop (O ([0,3,4,6,18,19,20,37,38],[])) Ie
def aJ6:LE Rn Ie ([0,3,4,6,18,19,20,37,38],[]):=rn
noncomputable def WR:=rg rS 13
noncomputable def aee:=rg rS 14
noncomputable def X8:=rg rS 15
noncomputable def ED:CC:=.seq (.bh NF (O ([0,3,18,19,20,21],[]))) (.seq (.cond (.t 21) (.skip) (.exit 0)) (.seq (.block 1 (.seq (.bh QU (O ([0,3,4,5,18,19,20],[5]))) (.seq (.seq (.bh PK (O ([0,3,4,18,19,20,31],[]))) (.cond (.t 31) (.exit 1) (.skip))) (.seq (.bh aa2 (O ([0,3,4,6,18,19,20],[]))) (.seq (.seq (.bh aa5 (O ([0,3,4,6,18,19,20,37,38],[]))) (.block 2 (Rn))) (.seq (.bh WR (O ([0,3,18,19,20,47],[]))) (.cond (.t 47) (.seq (.bh aee (O ([2],[]))) (.ret)) (.skip)))))))) (.bh X8 (O ([0,3,18,19,20],[])))))
noncomputable def UC:CC:=.loop (O ([0,3,18,19,20],[])) ED
def aD2:LE UC ED ([0,3,18,19,20],[]):=rn
noncomputable def XU:=rg rS 16
noncomputable def RH:lU:=⟨.seq (.bh Ze (O ([0],[]))) (.seq (.bh Y9 (O ([0,3],[]))) (.seq (.seq (.bh acj (O ([0,3,18,19,20],[]))) (.block 0 (UC))) (.seq (.bh XU (O ([2],[]))) (.ret)))),49,[.t 2]⟩
def aBZ:lz af (pol 347) 347=O RH:=aH
noncomputable def HC:=sV Tryz.f348 []
noncomputable def PQ:=rg HC 0
noncomputable def RV:=rg HC 1
noncomputable def ON:=rg HC 2
noncomputable def Rq:=rg HC 3
noncomputable def aoA:=rg HC 4
noncomputable def abR:=rg HC 5
noncomputable def MJ:lU:=⟨.seq (.bh PQ (O ([0,1,2],[]))) (.seq (.bh RV (O ([0,1,2,7],[7]))) (.seq (.seq (.bh ON (O ([0,2,7,8],[7]))) (.seq (.bh Rq (O ([0,2,7,30],[7]))) (.cond (.t 30) (.seq (.bh aoA (O ([6],[]))) (.ret)) (.skip)))) (.seq (.xQ abR (Tp Tryz.f348 5) (O ([6],[]))) (.ret)))),59,[.t 6]⟩
def aHN:lz af (pol 348) 348=O MJ:=aH
noncomputable def CH:=sV Tryz.f392 []
noncomputable def amC:=rg CH 0
noncomputable def ahW:=rg CH 1
noncomputable def agJ:=rg CH 2
noncomputable def Wk:=rg CH 3
noncomputable def apf:=rg CH 4
noncomputable def amr:=rg CH 5
noncomputable def agD:=rg CH 6
noncomputable def Od:CC:=.seq (.bh Wk (O ([2,7,13,14,15,16],[12]))) (.seq (.cond (.t 16) (.skip) (.exit 0)) (.seq (.block 1 (.seq (.bh apf (O ([2,7,8,9,13,14,15],[12]))) (.bh amr (O ([2,7,13,14,15],[12]))))) (.bh agD (O ([2,7,13,14,15],[12])))))
noncomputable def QW:CC:=.loop (O ([2,7,13,14,15],[12])) Od
def aD3:LE QW Od ([2,7,13,14,15],[12]):=rn
noncomputable def aoL:=rg CH 7
noncomputable def afw:lU:=⟨.seq (.bh amC (O ([0,1,2],[]))) (.seq (.bh ahW (O ([1,2,7],[12]))) (.seq (.seq (.bh agJ (O ([2,7,13,14,15],[12]))) (.block 0 (QW))) (.seq (.wb [12] aoL (O ([6],[12]))) (.ret)))),29,[.t 6]⟩
def aAS:lz af (pol 392) 392=O afw:=aH
end
end Go.Abs
