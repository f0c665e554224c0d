/- Functions of the program in the short form. -/
import Derived.Test.YtkhnencepibcpaaGreatD
import Derived.Test.YtkhnencepibcpaaGreatProg
import Derived.KernelRfl
set_option linter.all false
set_option maxRecDepth 100000
set_option maxHeartbeats 100000000
set_option maxHeartbeats 40000000
open Nat renaming add->ap7,div->ajQ,mod->aow,rec->asw
open Option renaming none->X,some->O
open Prod renaming rec->abE
open _root_ renaming List->B,Nat->R
namespace Go.Abs
noncomputable section
open Go Go.Proofs
noncomputable abbrev af:aA:=Tryz.prog
abbrev LE(P B:CC)(h:bG×bG):Prop:=∀{gl:bH} {u:eE} {n:R} {T:VT} {st:aG},cO af gl u n P T st=wO (cO af gl u n P) (cO af gl u n B (qX (O h) T st).1 (qX (O h) T st).2)
noncomputable def pV:Nat->Nat->Nat×Nat:=asw (λ s=>(0,s)) λ _ u s=>Bool.rec (aow s 8,ajQ s 16) (abE (λ v r=>(ap7 (aow s 8) (Nat.mul 8 v),r)) (u (ajQ s 16))) (Nat.beq (aow (ajQ s 8) 2) 1)
noncomputable def pD:Nat->Nat->Nat->bG×Nat:=asw (λ _ s=>([],s)) λ _ u p s=>abE (λ v r=>abE (λ l t=>(ap7 p v::l,t)) (u (ap7 p v) r)) (pV 4 s)
noncomputable def pS(s:Nat):bG×Nat:=abE (λ n r=>pD n 0 r) (pV 4 s)
noncomputable def pR:Nat->Nat->Nat->EM×Nat:=asw (λ _ s=>([],s)) λ _ y i s=>abE (λ a r=>abE (λ b t=>abE (λ l u=>((i,a,b)::l,u)) (y (Nat.succ i) t)) (pS r)) (pS s)
noncomputable def pH:Nat->Nat->Nat->EM×Nat:=asw (λ _ s=>([],s)) λ _ y p s=>abE (λ i q=>abE (λ a r=>abE (λ b t=>abE (λ l u=>((ap7 p i,a,b)::l,u)) (y (ap7 p i) t)) (pS r)) (pS q)) (pV 4 s)
noncomputable def pP(s:R):mh:=abE (λ n r=>abE (λ o t=>abE (λ m u=>abE (λ h v=>⟨o,h,(pS v).1,[]⟩) (pH m 0 u)) (pV 4 t)) (pR n 0 r)) (pV 4 s)
noncomputable def ar8:B jQ:=cv (Vo (DF "BFAABCBDBECt0CCBADt0BGFt0BHEt0Gt0DC0CDDAAAAAAAAAAAAAABKAABBBMCEFCt0t0BJIt0BIBLCA7A1t0FA2AHt0EADEBN1CD6BOHA2CECGABPDA0AD0t0AD4DFEEKt0CFIAt0CGC6F3CDH0t0Et4It4t0F31DoCG5tD5tC301t40Et00D82t0D13tFI5.C.A2Ft6t7AAE6E0t4G6CDGqE9t0HwrD37C8HoELC2DpG5Ct9tQt8t0DP0G2H16t4C.t0tDtDDK6t05tFF62E1E26Nt0DtDt0.tRC5EHCF0uotoFt4CKDI5tLtvq5AMt0tRv74E5tAIC4C2o7t0q3t75CLFtjItf0HtftSt0E1FAA2Gys1t6AtQDuLtA6Nz2yj5tQrtI6tS8F2Kv8wO4ui6wPGtgJt0Lt00DK5ttE4tM34FIDpJ09C8Cv9ot.t0G0I.uAFEtJt4A1t6J5t4ptTtC5tOI21ADq2tFv7wNt25t5t0DJDr5F805twtbujtpHto6I0t701G32.tjtS0JtftKCAAD.tmtDtQwNL310t4t9HFEooA7FtKt0t13q2E4t40HNq0tJu09tg.KHtT6Gt5tEtDybyr0J3IF0tQrtxtBCGt4tGE1JDLt.CCMtSt0DMtBtu45D9tq5KtTD2ItBt61oGtl5vq0N3u8Aykt84Awq53Eu1uBH0tat64u9ru91tWDN3t0AAEFxf6LJult5tpt7pK1Pydtrt8o.oDt.sMtRtR0uiz32tvtDDt7quiBVG6tGCtVt1s.tQtTuHxgFtgvftTtFt0ujt9HKOtEyews3ycpyc2tkGt23Iwsu8t9t9tSukuqJtf0144veDtBDtKDt3rFJCtc021DtC9t4xhpt8CtatD.0NKGEFO1pt5CPEAAXA2064HEtHGtqKypOHqFJ5tRJ6uXotTEAFz46oItJtAF3ukt1urvMD7EKt7t0C3.tgt1t0Jt4vNyq5G178uW.tYyfuCtFtk2tatP6qt8tF2tVsH3yo0GNEt5OIWyhtF7tmtFtR5tn7tMt7JupvrqtH60vL1vLyiylytyjyuymyvvcywtMyxvdyyynyztmAAz.yjz0tmz102vLstc") 29)
noncomputable abbrev hx(s:String)(h:{l:B Char//s=String.ofList l}:=by exact⟨_,rfl⟩):B (R×bG):=(dl (qD dn (dl dn)) ⟨XO ar8 (Wj h.1),0,0⟩).1
noncomputable def aDI:B (B (R×bG)):=[hx "tGlAKu836Ju8DvstJtsuIxivOuI66vOxjxitsuIxitsuIxitkq6xkqwQrDtbqI84teCu8OEtItGvtu8OygvgtGDtovtu8tHEtMtGvuusMEtxtkvPust8Eu9tkvuusMEtxtkvPusMEt8ItxtkvtqtWtPDtxu4EvQu5GODtMu4Gtbu5MEtIu4t3qwQrxkqwQrs3xl8uIxiu4t3qwQrsHPPvvdCxmvswttXum5xnvAMtrpFMuMpFt8trtE8tX0t6uNtXwutE8tX0JuYt4t60t6.wv0JuYwvNErE5vAukrE5tlvAMtrDtE8tX0teKFFHXRIuZwRCwStBwwtBwxtftI0t3tB4txwTtd01t3tB4B",hx "tZhHOCtQ1vh1tqtytBt2tAtBJumtytBt2tAtB1u1tLtBtPCtG0tOtB1u1tLtptW0uttp2u1t55tpt5GtW0t.5tpt5G2u1tAwTtG1twwTtKHtG1tOwTtG1tCtBt2xo.t2.1.JKtqxo.t2.1.tqxotxuBtMxptBt2tKxo.t22PJ1uoPCBcOM.t4Et2EwUEwyxqowVt7t4ttwyt5t4ttt1wyt7t4ttwyt7t4ttwy.um1wV7umwWEwV.um1wV.um1tGot6Itqthttwytzum1wV1Lwzt1qcuutB448wsxrvwxhtE3tH2xrvwxrvwxr3t2xhtEtdLtGxr3t2xr3t2xh2tMvOvwxhEp3t2xhDfFP2vw3.toE37toJ2tjot2vxuvGtjvxHtjtPvxGtjvxGtjvxG3tIuvydtILEuvG3tIuvydtI7tju43tIuvtkt2uJGtjvxEG3tIuvGMwXxsPwygLO.td2tS73wstS933.vyuw3tivyvzx.NtYvyuw3tivyvzx.NtVvyuw3titSuxtdxlvyuwCrNGFtSuxtdxlvyuwCr.tSuxtdxltSrGuJtquw3tivyFHtdxlvyItP11wYOt1x0YENx1wtJxt6xm0tDxnoFuo0xnovRvAt5tSuO9tcuJbw.vsJtStDvSuPtSvSuPu1tDCt.tCtDCtyw0JtCCtyw0ua.t.JtmE.tRFxuMJua.tRFxuxvw1tGv9ubtyxw.uxuo555B",hx "tZVItCA336tB2t4tgt0Wx2x3tmw2JviNt9uO2tQtMKCtS4q7DZxxx1wtKxt6KC0tDtNLtot3w3tat3GuWrGt3HMuMtbHukt7xttNLtotD9tNLtoEjLMtluQxyItp7xyJtp7xzvOwZtTItpu9vOKx4t.3vOLx4t.tjpLtpvuIwsx5t8x4x6t02pLt1x4x6t0t.t2pLt.x4t.3vOKx4t.3vOJtp9uDx5tp9vBGvOwZtTHuQt7xyHwaIt8HvOwZtTuIt0tFwZtT7Kx4t.3DuEuoy.DO0M.VIGt9v7t85t9v7tH5vjt27y0th0uyt0y1uNway1vTw4w51wa1wb1HXIHG3uztVuK3uzLv.2vTKtz2tz2v0Et8Fu4u1GtNxwvTKuFPGD",hx "tZYEItttIstNw4st3wTstbtBubst3wTstbtBN0st3wTs771t3wTsvkVw64vCtNtvtMWAHt9vitFw2Mw1wRuDuC3totqZxv3tavTruFt1vMuFwcOtdtBxixot1y2uFuNw0PoCuNDuN2.tH8wd4uFtbtBtb.tiZTKupvCvPuiv1N0tvtN2rtM2NvDFLu1tDqt30tNt3Nu1qt30tNt3PucuOtHtIt3uJeSL6tat53uZuyt0y1t83wa1tfy1t.8tRu1t4FtfKpu1t4Fxf.GtftKvt.tRvUuM.wut4KvP.vUuM.wut4LK0.uZu6wePtX0u6weJMw5tRx0wa7u1u2vUuM.t3u6Hx7",hx "tZZAI3tawctEE1tEr5tuKt4tFvjtkAw7P5tkAw7Pt94uatgHtkAwdt51w8tVIEt6udtMSCtC8tzt4t6I1ye3tWYRMw44u5rMqqtAEtU2tU.tUtPxwustOGustYusGusIvVustAGusLvVustAw9cRM3tavkruFwAruat.6tit.uQ71tKtdv02tHtduK2tH3vP24uat.uQEt8ueFt8ue77t1oC9G9x8C9H9x8vP94uat8uewdtlEt.uQy3t8Fu2fGItUvCM0tvt3t1vMu9wBwx2I3wCtbwBI4tvt3wBvL.rtM.Pt3uitb0t3ItHp0tbIy4uMtbvtLp4KvQvtLpLuptXtFt3ItHp0t3ItHp0tKLw1tYt3t1vMt.txItHpy5t1GPtYHaSPrwSvkwxt5t4ww28wCtbx94vQx9H4wft3vkv8tKwDwfvkNFvkNt3Jt1FtHFvjvj0t3vkrutt0tPoB",hx "tZy0vVu8t28tYvRO2vRt.uaFptVGtzGw.tVx5uFOtTvTVYQJtVuQDuA6ti28vNtpFt8t28t3wgHuQG2uAItpGt8tGuAuftTHuQH2uAIvrtquAKvruguBuALvrugo2uALy6tcvWNvru8MtcvWOvru8M6P.uAt3wgOy6vEFvWPy6vE.vWPvru5KvEGvWEuouQy7Ft7vEGvWFuouQy7y8vEO7vWFPypy8vEGvWxxy6vEFvWOy6vEFvWKvruguBuAuftTuft.vruguBuAGOy6vEFvWvlCIJtIWHHtovStV0vSuItauO0v9DVtWtgtzt4KC2utt72WMv2AuGv3uRuXv3uRxAv7Dy91v35xBv.YxxwEtHw5CuyItduyyAuZwcNu3wcJ8xCt2Ctft3tBGZDOrvCLxDv1LvDxEItUtIxEtI.tN2JtbxFt7tI249WteujuGv3uRtuAv3v7Dy91v35sHD",hx "tZdEMDvstUtkDOryBvmtsxGuptkvmtsDt8tUyBuPwDuXCt3.xkMF.tDCH5tetHtOCH5tetKtLtDteyCtEItwteyCtENJtmtetREwuLKw1tVovmuPuxvnDtEBYKNx1tUtkwXryBvmtsDtHrtkvmtsxGtUuXCt3.tKtLuOx9vmqawFupv8v1MxDt1vDxEOvD.vL.LxH7vL7PxHt.tbtvtN9v8tPubtvuDZwBtauyNw5Cwcw3uZttwhL6uZtx.w0q.E.wXt3.uZt1tEuZt5t4MMy9tqXy8rv8u9uiwOJvCN4xF2wG4.x7GuduKud2",hx "tZx7xIyDuMt76tR11rXGJrv8t5vDwOMuptIwOKtNxF2wG41ye3tWkwFs6wHCtJFu3Lv4u0yEuIv4u0LvXtAGv5otJHv5ouLwiEt7otJJtBEt7oNv4Hv5yFs6tAGv5otJxJKt6uLH6KthtJwiGt8tEtJJtBGt8tENv4wit6JtEuSt6JtBt6JtEMtV6t6tAH6Ku.GyGxJKt6v4uf7v5otJI76KwjtcXMFvF7tgwIuxtg0ve3tfy3to7t662t6qDt60t6GVKx0ueFueEtEN1tEt.5t.9huft2ouq7o0uq9o61wkoqLFtkutFtNtUt2tltNtUCxKJt7tMu5JpxKJt5tMu5Jp1tNJt5tMqtNP8EtNvPKtMqtNtKvAtNvPt.tMqtNtKvAtNvPt.tMqtNtKvAtNvPt5tMqtWN8xKJt5tMu5Jx5ExKvGtwItMu5JpxKvGtwt7t7tMu5JpxKJB",hx "tZZPMCvstUtkvlryBDOryBwzupyBuItUuXCvAtVt7F.tDwlu4t5tOwlvOAEpMtLuOtK0py0Lx1tUtkvmtswe4uXxLruXtYMC.t5tQtDtMZQLupv8v1MxDt1vDxEOvD.vL.LxH7vL7PqtvtN9v8t8tbtvuDZyh3tawctEE1tEr5tuKt4tFt2uaFuWvnFNvYFt3Lt4HGt3vHt5we4uaFuWuaFuW5wdt5tzuW5tVJFxwu7tzudvvYHJrwSu6wwu6wx1o4vutBvMu9u6Iqtvt39tatv0t3u649VNth0t8w5CtKw5t8t9tR0",hx "tZYJKvft.v7t8t9AAt9tnt5w8tOt5ouh1yqAtL1Ov5t9tCt5w8tCt5w8.tCt5w8ufuPygup03tNYt8uLtJEtssF.tsM1tVuJvnts1tV7tstHCsFuJ5DtXuatXtKtQwltl1u7uTx7FZtKtf3u33ouutfCtd6u8ouPCtdtdotN6E8tNNtJtNtd6ydoHy.tdvM3tlYNM13u8Etdu8FtdI1tduByHtu3st5qtSuBxMxMxMxMxMxMt2Ft2t3uBHetK9wUt0HwUt0I7t4t0OtewUtayIt7urtd9ptdIurtdMFHpvMyIt7yJIyJIyJIyJJyJt7yJHpw7FptWGptWxv.pEtNyI1My1MtMyIB",hx "tZVOHuQtk.18.H1tAt7tFtA7t7CxNu9xmuQyKDvqtqudtzWx2ulwNtFw2Lt9wNJtFuOwRv0WAHt9vitFw2Mw1wRuKwm",hx "tZVtGvsu1uOACHvGWFLwEurt8t9tRuZuywntRtHtFtRru7uDeyftUv8v1OxDxELvDtHxHtHtNuitPt3ui.vL.PF4tI.vL.tI7t3xuq7tN.PK0tvCDvGsvlt.vHuXCDtXsuPtKvHqDtXsuPt1ukuXtDCOtI.4t.vItXtGZRyovCvtuit5vDtPxHt1tNuiv1PwDtIv1wS1tPt3xFt8tIxg.VIGuMuyLw5CtI1uJWTwgAuGv3tCuGv3uRDt5v7DuRDt1t9xC4uGDv39Ix.4B",hx "tZawF2toE.3tME73v0t2.3tME7vwN4otwEtct2.tcIu52tct2.tcuUw9tcLtbotwut4yHtME.u0t3oWRIuLwHCtJuStlyGu0yEuPv4u9gELs6wHCtJFu3Jv4u0yEwzv4u0JvXtAu0vXuSyLvXu0vXuSENGyGuSEMIv4EtctJFtcIJuLEtctJFtcLLv4xJ8uSG968MN.6ptOFtcKuoyGtAufuVvXy3tctJDuCtJtJ7EZyfrvCH4tIwOMxHv1IwDtIv1tI2tN1IubxF4wG4.qxg.x7GWTJxfvsPxtvSwzC0v9v9tD.v9HXGJrv8t5vDwOMuptIwOJtNxF2wG4B",hx "tZW9t9viKviNt9uOwR2BWx2x3tmw2JviMt9uO2tQtMgOP13u8Evw374xO94t8t4tU940vGxgt7r0yMxgt7r1u6tUt.rvZxOt8rvZt8t4tUt8ruUovH249KrvZxOt.rvZxO74xO74uHtIwstMu44xOwJrvZxOt.taFFt7tH2sDWOFxPxPvFtYtgHtgtlxPCu.0u.2yixQwk58pA88A8Gt1unwkun0wk.ZALxQxRtOuEw8tEGo5tEtb3AtExJ5t676t15wluEw8uEw8wl1uEw8ugxsu4WKv2AuGvguawou05vg5vgy91vg5sGtePyNoFucqFF",hx "tZXx2vfvcCwKtOCtEuhtYvYtwtYt4Mt9tAtCCHvcCwKtA0tCCtEBaINyOE87tgtW8wIEvevowgvFNtGvowgvFFE8wIvNtWvowgvFxw8wIGwQEvowguftau7uDQtJt0tk01uTXt7xQuAtTptE5tEueAptENunuAtTtA08tEFyixQwk58pA88A8Gt1unwkun0wk7JDujtDuxu72",hx "tZud1BWFGtovSu38xGtav9tDyDEyPubXEOxfxntD4Kxt4tSquIxt4u1u5Ku1tAtKtOtD2tewruUu7tzudvvu7uKgTNtUv8v1OxDxELvDt1tNuit7t3uit.tbui.qy4tbwJpqy4ubwJptIy4ubtxIptN9OvN0.4O8tN9OvN0txIpNxK9OFtDvttxIpJEtN9OFtbwJpqy4tbwJpqtHtbvVt7Hug.NvHIHtDtHNw1tPu9wJpqy4",hx "tZaSKupvCvtuit1xDt8vDt.tNtvtNt8FwSt884tx1wQwS2y.wx2y.vutvtNt8uctvt8tMt8uc3Wxvt4w44tqrN00tRtSqtqvIO40tRtHtFtRrIx.41Mt2tooveWRIuLwHCtJuStlyGu0yEuPv4w9v67ZJMx1wtt6um5xnvALtrpFLuMpFt.trtEFvTvUvALtrvAvHrE57vALtrteuCteu72",hx "tZxmuQwhxItWtgtzt4NC2utvuu7uDvqtqu7tzudvvuduKbEMtDt0NuRt0Ot9AAtFuz7tFti9tFti9tLtiPthHtwtiPth9vat08Nt60ubvatitKt6tHt0HtLtiPthHtLtiPthH9tLtiPthy3Nwzt1wXD",hx "tLTExStFxCAqq9wrtMXxTx3wpvcuHtnuKtnuHLwptTtDvhuHDWSGuSti6tiot8uqxytlx9t8t2oxytlxytl2fLKt261uBotWoMuqtWoMuqtWoMuqtWoM.uBKtWoM.FttxLw9ttJHxL0v2x02OHxLv.2xLw9vBt6v.t19FvBthxL9FuTxUxL9FtzNtEx0t5vvFvBt6v.t1w9vBt6v.t10v2t1w9vBt6v.t1uDuW7v69kRLt2vw3.toE37toL2tjot2vxuvuwx6uYtjvzx6t4uvvztIuWvxuwx6uYtjuwx6uYtjuwwWouvvzwWovxvzuUNtctjvzv.MwLtjFvzv.MwLtjFvzv.MwLtjvNtfwWouvuwwWouvtkt2uJuwx6uYtjvNtfwWouvEOteKED",hx "tZuC3to0xIKH4r0q1vgF1tDtKtmtMIx.41YMKultytQtytF.uh.9tTtw.u6vpxu8AtL.9tTtL.9tTvj.tL.9tTteNt72VKGuMuytEtRFxfw4FXQOtTAt9tLtRuGv3twuGtQugt9tRv3uRxAuGDuRDtHtQxCt2uGFv37YRMrvCG4tIwOJxHv1NtUtIv1KtbxF4wG4.qxg9X9uvtGvvtjNuUtIu.2tV3vexkLEvuu.0u.B",hx "tZwmBXHMult8tmtQtKtmw2Ovitn2tPt9uO7tQtMWHHtovStV0vSDuo0uO0v9DZIN1tdwh3stuyHwbCs1tAwDtSEtG4wbItqDtAwDDu5tV4xBItqtG4Du5tV4sKLtqDtAtAt724Du5tGy0IulwNtn2vfybtn2t55ybtm1yb5tVLv.VGHuMuruZD5t.t9tRuJcQuCtJwHt26tYu3ve6tYu3uVtlu3tP2u3tAuS4u0tly2JtGu3tAEtUNEs4tAs4sumtUstUFtUvlFsumtUstUFtUtutUGtUDt1Gs4tAtAtH2tUstUHWx2x3tmw2JviMt9uO2tQ2",hx "tLXLLx1wtt6um59AteNyCHuWuaHt1tTteNtTteNtTvj7teuWBWSJuLwHyEuPv4vgtNu5u5P0qtAt85u9jPJtVtgxPvFtYtgHtgCNyOCu.wIyKtgDvet4Dt8u4tgqu.wIE7tgFvet4ygFvFt3u.t72t4ovFy82t4oJHvFt3u.wIxxHvFt3u.wIt3Htgt3Gu1.tlu1.t2tWFt2tWt3wVHwVHug90I9EI9tHI4IvQu.1I9OK4IvQu.0u.5ukEIJr9Hw.NC2aTOuLwHyEuPv4GvEtJH6Jtj6Htcuk2tcHwLvHuLwiGvH9yGGvEtJt8tCtAtA.GvEtJxxEt9tu9AtDv0VLFxPEueMuFMt5uFwgCtXHv6B",hx "tZWFth0wct60wcuWrvntp03v60u7uDuduUXRMtTAt9tLtRtFt6tnthAtOwhtTtLDtttCtRtCt6t5y9tFt6y9vht6.v67u71Hud1",hx "tZuoxN7BWOHu0uV.6t1uV0uEtVxltz0OqucptbptbYwFult1tmtQtPykwPAtCwPtnGLu2tCHtXvdHtXt7ykwPAtD7tFwPtewruTxVFXNL1tdwh3stuyHDOCs1tAwDtSEtV4tStGswDDyhtqDtAt1Kun7GuCtJtJ7HXHJultDtFt3tnyHAtC8vd8tAtFt3uRt3tm1tFt35tVK1",hx "tZuoxN2tKDxN6w0tMVGHuMuruZD5t.t9tRvIeKOCtJwHKuLu0t26tYu3P2u3tAFu3uVtlu3tHt2u3tAuS4u0tly2OtGu3tAFu3JFu0CtAtJtJFDtPvRyKDtP8vI7weI8s9GxGtPoCwexGtPovP6tOFDtPvR6tOtP.DtPvRwhVLHvswtwutDt5t9tDtzxmuQyKGv69v6B",hx "tZkLNtYtjtGvvtjuT1tx0sycy7xBxWItIxBtjFsJtItJKxWKtItJK3GycJtItJKxWItIvgKxWy7xBxWy7xBxWGFsOxXw6sOpv.svVsxAxXJ.sxAuEycvVsxAxXvVsygpx0sFw6syLxXGFsOxXGFsOxXyMItqy7xBxWIw9sOxXOt1t26t7Cw6ugwXtYDBv60QtUr1wGquDye3tWhyLyN36tBtBtBtBtBtBtBurwM6u6wMtB9trPpo0pwM6urwM6urt5tXtBu6t5Kt46u62NvGtt2thEt1vGtt2yQEt1vGt1tt2pt5tXtBurt5tXtpCrGpwM6.pt5tXtBt7t9t7uTuTLt5.wzt8w.ItYXRGtLwvvptathAtwtatE5vatatEtAtLwvuhwv5t0tLwv7YtltL3t6vp3thAtw3Ht4Lt553tEuHL9A3t6uh3t65t0tL3t69wm",hx "tLPt2ouq0t6tHCotIs7u9VEqAt6IvfItPt0IujAwZsvlDujuj0FVw64vCtNtvv0XKJultytC.tTtOuNtLtOuNuhuNt.t9tC.vc.tTvj1tCuNHuC3to0",hx "tZx72wq4PtgCtttRvIeIIDtQ1vh1whtC1uIuztCuLEtLuLuztL1ouC2tO1o2tOuUtPCxYxYvh1wQvh1H2tC1HOExY2tC1xTFxYxYvhvZEtCvZ2tOvZIH2tCvZ2tOvZNtXEtkxY2xstCvZuTYKNx1wttXum5tcrH5teyCtEP5teyCHt4KuKt4K1wKvj9teyCHItVtVVPHt9tuv3tXuXtQq1tFqOt0uXv0WAHt9vitFw2Mw1wRuKWx2wEuNuZuyt60uywPxCtMtf",hx "tZXxvt41tB2tpFtBtEEtpGtpuztptGt1tQvjwduUtpBXTMw44u5rubqtADtM.EtMtXFtAtV3FEt3tPtitV3FEt3tHC.tAtA9tV3t3RExStFxCA.DgIJtUv8xENrwfq.vLwJupwfqt7wDwft3x8wwx8rvQ7t1y2vQu9Ly2vuu9L6Orwft3x84txwMwwwMrvQvkP8qt.vuvkP8KtIt.wfubt5t7pOtUwft3wM4tquFKtxx849t3wM42WRJuquqx9tP2tgtwte3y3ubt7weutt7tCutt7.dtKyOxPvFtYtgHtgufyOCu..8uU8781Kt2vou.2ptWpEGxZyAu4t2HxZyAvvt2HxZCP3u4t2GxZyAu4t2GxZyAu4t2Cu.t0J7xZyAu4t2yLyg9GauuyOxPFvoF8uJvo.8uxvot8.8ru.98r.8uJvoMtY8ru..8tKtGvou.0u.9VNFGue.wUtPuFPt1uFMtTCuk",hx "tLuC3to0BYyhtf36tBtxwAwxtKt4ww0ukwSwAwStKtrtd01t3wAr9JttvGtNZILtRuF2t.22tEK.2tEt..2urK9ttttK9ttFvTK7tt8K22tEK22tEtXEvTtG2tEKuT.uCDeIPtAt45wUyMuCt6xau6xsvGxaxquCtX3t6uNxst6xau6xst6xau6t8t2yRLtYyRt8tYvN1K6LtlvN1Kwet8t2yRLt2yRLt2yRuCyPL4Dt6xau6t8tYEyRLt2ukGPtWVWt8s04qucxbt6yNNxbJta3Nvwu8JtatdLxbJtatdLxbt6yNNxbt6yNNxbHvIt.wjst7taxAthsxGtawhxUsxGtaw0NtEExMHvIt.wjs9vIt.wjs7y5OtrtGHy5OuMtGt6t2Gt8NtrtGt6t2HLuWt14tGHtqHLNtrtGGy5OtrtGGy5OtrwVtHwnyDtHwnySwAOw3t7tltPtKw3MCt7t2tHwnAEtHwnAEDt6yNNxbGHvIt.wjs7Gy5OtrtGy3tHwnANt7vNvTIt7uIwZEuP.LEPtlV.t95wlt2uFv2t29xV",hx "tZu71BWIEvFv0t4uWOCtHt0OCt1ujIx.tfucwEYPMCxStCtQFtLtAtlM5wowotQFP59ACHLt9wowotQFPt9Cv2wotYJtFwot5tCwou8Dv62u7tzVEGt9tutQq1tDtKtmv0v69u71",hx "tZud19wrtMud1wbEujvfvftqYJOwEuyt0y1.ti0.trtBuc.JtrtBuc.wPuc.JtdtBu1tPu3tB0FYRLt41tB7yTt4HyTt49w4oC7t6tu0u2yTu2yTt4tGt.tQvjwdvvyTu2YGM1tdtu4DuT4u42tAtGtStWtWDt80tWtGtStWtWxA4tWtAtGwzC2tGtStWtA.tGtStWHu71",hx "tZWKHtovSwGv9v9tytD0v9tVJ1xIMyH3u33ot2tdvMvMTExStFxCAqqDye3tWXxTx3wpvcuHtnuKtnuHLwptTtDvht8tiYFLxQxRMunyU5pNvYtEF9tTtEG7tTpuWtHunyUun2yU7XIJtTAuGvXyDtJySuQySwatOvXAvXAtRuUtJAt3t1tIHYHJylt9Ft.tzpt..FwUK78ot.98wkt.tzpt.tzpt.uzvTtGFpt.uT.PB",hx "tZIwqtu2BYufultDFuVAGuVyS235H23tyG23vnuVyDuVAtDv.uVAtVPtIIwqtuuDt3tQuUVwQ4vCO0tvtzWQJtTAuGvXyDtJvnu8ySu8tAtRvXAtRuUtJyftgtDtRuxZTOrvCLxDv1L4tvt3t56wwt56wx.MvMu9t56Jqtvt3t5u3tvt7txt5y2B",hx "tLu72u9ujtqwmFvquJVQFxNxRtCtCtiKtFxRtCtA0tFtiHWSKulwNtLw2tn2tPtmybItQuOwRuDJDujtR0",hx "tZEt9At0y.t9tutPt9tDtMWSMwEtBDtpt9tuLw5tuwntuwnuZx8tRvIWHHtovStV0vSDuo0uO0v9EZAPtptkyPDtAowY1tA4tCqy8tQtAtNP6At3P65tbHtP3t.txP6Mt9tAtNP6AtAt5tMPtcXxvyOE87tgtG8wIteEuevJtGtWt72tWEOt0t6vJtKtFt.5t.7XJveouqx9uUo7o1Hw70v2E8EtsF8EuotsCv2Ct6HjAItGouqx9t7tGtgtwEvRDuA8uf6tsvVtaK618JuNxa6tsKuNxav518utvVtaKv5s8utH8uf6tsG8xUDuA8xU18vVtit7tEtsJ.tit7tEN18utIuNHtKpFuAt5uNHtKpMtV8tEtwH8xUIGtsutG8xUtsuttYH8uf6tsI78xUts",hx "tLVtYuMuyJw50t7x.40YTKwEuyt070xqwuxqyM3.ta.t63pO3vU9u20xqtRv00xqtGIEsdt7CxNtctKyVthO7tYthtKvQ8ptKvQt3pt6OyVthOyVthOuxxjvBwBtKwJwBt0O7tXt.3tK7tXw3GtKvBwBtKvBwBwAtOCxkFthO9yLwBtK1KtHsEX.HueuJGuMw6tf4FGtdvVtf4J.GvMyI0yI.Xx2xftytYt9EHtXvnxTvYFubthJuKtXuaHtXtmuTHtXuaHJ9EHLqAunt2B",hx "tZYwbultytF.tn.tTtOuNuh.vYtO.rAtL.ruh.vIvdu9Dv7vfCou7tIud1DdIPwEtfu1yQucyQxut7u2tfwut.tlr70wYt64HtHtrwYvG4HtHuMwYvGumDtHtrwYt64HtHtrwYt64HtHtrt.t20yQu1yQuZtG0yQFt64HtHtrwYt3t5Eu5fHItQAt9MtQt9PtFxctCuuwKtOuutEuh3JwKtw3t7wKtLCt.tEMtOtCuuwKtOuutEIItnuuHvcuuHvcuuwKt9MJxctOtFyWtnyfw3AtCGt1uCvdGt1uCtHt9tFyWuRyWuRyWuRyW5tYtCuuwKMtDyW5It1tHtPL1NtKGwX.vquJVLFt9viLv7uOwRuKwm",hx "tLwmxIJHxStFt2P5wdt2Jt9wd40wmtewruTv6.Iwqtuv0v6B",hx "tZN6tar009wrtMx7DuduUVIEtQCuRCtAtQCv7C5t0tQC.WNv2AyTs8xwts7EDttGs8Gs8vU71s8GGxVHxV",hx "tZxVBXCItRtuyXxptk1tCusDtOtUyMuXyXuX0yXqXCItRtuyXxptk1tCusDtOtUyMuXyXuX0yXtGXPKtRymtTtOuruh2vYtw2t4LtmtOurOt9tDtC7tTtD0tC7tiKqAunv0vquxXFHxRtFtCuztOxRtFtCuzvduztPt9tCuztnuzuFtDt0tFxpuz1lPPDtOt4tOtLu2vpvbAvavbNujAvavbMt9AAvavbLtQtwvbAtwvbAvJu2vYL5u2t4KtCvavb5vavb5vJu2vYvJvbtKtLvJvbt8twvJvbt1Kuh3GtDtLu2vpt4vevpt4HtDvJt4HtM5vJt4w63AL5t4w63JNvpu2tytL3GtytLu2vpu2tytL07tytLu250tLu2B",hx "9VNItRuGwqxSuGCtOxcxc0",hx "It16tatfrvqvIVNGtJtJsupu5tUubqtAt557EjKuCtJtJuSw0v51wixjuYv5wWtBxjt4uSNwWtBxd7wLHuPtBtSuH7wLHwXtBwatX7wLHwbtBwatXtHu4wLHuPtBtSuH7wLHvltBDwAtKFuSNtIx5CwixjuYv5uUIt.thKtYIt.tht.tYI9LtECP1vNt.t69t.4x5t2It.thK4x54ugtBxjuYv51K2It.thKtYZTMultDtCuTvduqAtOxouhyYvpyYt7uhyYvpyYtPtQtLyYtnuTtmCxpuT5DtLyY5tVNx0GYvlwEtfucFu20ue9tfuQHr6tXxuueucuetR1ucuesKCteaQItlue.Gu2vRuUvU9vR1Lv0tfMySvR.EvU9vRwJt2GtfMvnvU7EvU7vU7NtGGtfM5uPu6KvB9tPEvTM5tPtLt15t15WHLtRuGwqxSuGCtOxct9uGwZ5xcxc0",hx "tZVVLLtW6uV.6tKuV76wAu0uJyKu4ugyKEGug6tbuEu4wbDu9ptbuExJtKtKt26.6tz6uKwCLuBwCItI2Lo2wCItItMJoFqtMJtIuDtPtcquDKtIuDyZM.wCquEHwCLuBquKwCLuBqtMuExJtKt.Gu07yawjq9yathvgt7tIvkJtEEqt.t5tIt50tPpEyat.tIt50tPpN2ya0uEItIt1tPpuCvg0uEGyawjwGuEuStHLuV0ptbptbN9wCLuBqvB7yawjwGPHDxIAEvstXum5t20y.t9v7tytDuDdIxmujuGtCuIt0vduIvYtLv5t4FtLDwAt8uhxd5vaxdxz5vJxdt53AvJtSuHxz5vJxdxztAtOsuk5vaxdxzvduIt0t8tQtRtCuIt05uZxpuIt0vnvaxdxz2VNGxNtFti9tFCuAtFtYPC9tAw9vquJu7uKv6B",hx "tQxVxIOF4rtM0tM0tx0t1FtNtftFtMXOHtCt0tytOuYtOtCt0tytOuYuhuYt5tQtOuYvduYuFtyt0tyDtOuYB",hx "9MEujvfvf0",hx "tLwPt0tfBREtoxntDtMyirrrtUtx6r9t2t4taxZ0t5tStD4KtauDcNOuVuV.vm1tSGvmtH1vmuEGtSw3suxtSLtjtSHtSxxt02tSy8w48uk.tSFt.w48uktP.tSucuEI1uxuktHCsruEGtSw3sruE.GtSw3s0FxVGXxTx3wpvcuHtnuKtnuHLwptTtDvhuHHXxTx3wpvcuHtnuKtnuHLwptTtDvhuH",hx "tFYKLxQxRMunyU5pNvYtEFu6t7u6G7wvpuWtHunyUun2yU.vquJW.tF8AtC8tnotn8tLtF8At0tFuAWEuw06t64G5tJA6MC0tJACv2tJ",hx "tCOqAuR.uFoy0OulwNuR.tCt1w1tQt1tmtQtPtmt8t9tDtMy0OulwNuR.tCt1w1tQt1tmtQtPtmt8t9tDuDeEPuLwHtG6tV6w06w0tcuLGtct1FtJwluSt3tJH6wF8tJwiwF8uLwiubL8u0Jt.tBydJ8u0Jt.tBubt.8OuVJ96wF8tJH6wF8tJwlt796wF8tJwbtKw6Hwm",hx "t9XSIxQtct1yVpt17tYwUMvQ8ot1yVpt1yVpyPGyPxkFpyPVVxTtG61ouSxYxJ2xeteuBw.xeugvKtKwsoJugttoNCxeteuBw.xeteuBw.xeugvKyZw7JvlvKyZxevlvK1MtcyFt5ufvK1t8tcyFt5uuvKtBKtcyFt5wZvKtBK6OtVyFt5ufvK1t8tcyFt5uuvKyn6w7JvlvKyZPGw7Jqv2IvKyZw7JtGKt1vHvnKt1LvYFKt.t.Kt4MtYKt1vH9ACv2yLt1vHuFv2tGHuBw.xetVIvKyZw7JwXvBt1vH5w."]
def aIJ:B (R×B (R×bG)):=[(234,[(10,[10])]),(235,[(14,[19])]),(263,[(8,[10])]),(299,[(12,[19])]),(317,[(7,[6])]),(340,[(18,[18])]),(392,[(7,[12])])]
noncomputable def pol(f:ck):mh:=match lk (E5 [] aDI (f/8)) (f%8)with|O p=>(match lk aIJ f with|O z=>{pP (dhx p)with qV:=z}|X=>pP (dhx p))|X=>⟨[],[],[],[]⟩
noncomputable def FJ(P:aA)(tk:bG):Code->Ks
 |.region id u _=>[(id,BI P tk u.toList u.toList)]
 |.seq a b=>FJ P tk a++FJ P tk b
 |.cond _ a b=>FJ P tk a++FJ P tk b
 |.block _ a=>FJ P tk a
 |.loop a=>FJ P tk a
 |_=>[]
noncomputable def Ff:Code->B (R×jQ)
 |.region id u _=>[(id,BK u)]
 |.seq a b=>Ff a++Ff b
 |.cond _ a b=>Ff a++Ff b
 |.block _ a=>Ff a
 |.loop a=>Ff a
 |_=>[]
noncomputable def rgF(fn:Func)(tk:bG):Ks:=match fn.body with|O c=>FJ af tk c|X=>[]
noncomputable def rgG(fn:Func)(i:R):jQ:=match fn.body with|O c=>(match lk (Ff c) i with|O x=>x|X=>[])|X=>[]
abbrev sV(fn:Func)(tk:bG)(h:{b:Ks//rgF fn tk=b}:=by refine⟨?_,?_⟩;rotate_left;(conv=>lhs;cbv)):Ks:=h.1
def rgL(l:Ks)(i:R):jh:=match lk l i with|O (O x)=>x|_=>[]
abbrev rg(l:Ks)(i:R)(h:{b:jh//rgL l i=b}:=by refine⟨?_,?_⟩;rotate_left;(conv=>lhs;whnf)):jh:=h.1
abbrev Tp(fn:Func)(i:R)(h:{b:jQ//rgG fn i=b}:=by refine⟨?_,?_⟩;rotate_left;(conv=>lhs;reduce)):jQ:=h.1
noncomputable def qC:=sV Tryz.f39 [0,1,2,3,42,43,44,45]
noncomputable def X3:=rg qC 0
noncomputable def acF:=rg qC 1
noncomputable def Uc:=rg qC 2
noncomputable def adn:=rg qC 3
noncomputable def Xv:=rg qC 4
noncomputable def Yf:=rg qC 5
noncomputable def aFn:=rg qC 6
noncomputable def Z7:=rg qC 7
noncomputable def I3:CC:=.seq (.bh Uc (O ([2,3,12,13,14,15],[2,3]))) (.seq (.cond (.t 15) (.skip) (.exit 0)) (.seq (.block 1 (.seq (.bh adn (O ([2,3,7,12,13,14],[2,3,7]))) (.seq (.bh Xv (O ([2,3,8,12,13,14],[2,3]))) (.seq (.bh Yf (O ([2,3,8,12,13,14,21],[2,3]))) (.cond (.t 21) (.seq (.bh aFn (O ([4,5],[]))) (.ret)) (.skip)))))) (.bh Z7 (O ([2,3,12,13,14],[2,3])))))
noncomputable def Ux:CC:=.loop (O ([2,3,12,13,14],[2,3])) I3
def aEa:LE Ux I3 ([2,3,12,13,14],[2,3]):=rn
noncomputable def XB:=rg qC 8
noncomputable def azZ:=rg qC 9
noncomputable def Xn:=rg qC 10
noncomputable def abX:=rg qC 11
noncomputable def adg:=rg qC 12
noncomputable def alu:=rg qC 13
noncomputable def ao0:=rg qC 14
noncomputable def Wa:lU:=⟨.seq (.bh X3 (O ([2,3],[2,3]))) (.seq (.seq (.bh acF (O ([2,3,12,13,14],[2,3]))) (.block 0 (Ux))) (.seq (.seq (.bh XB (O ([2,3,41],[2,3]))) (.cond (.t 41) (.seq (.bh azZ (O ([4,5],[]))) (.ret)) (.skip))) (.seq (.bh Xn (O ([9],[45]))) (.seq (.bh abX (O ([9],[45]))) (.seq (.seq (.bh adg (O ([9,53],[45]))) (.cond (.t 53) (.seq (.bh alu (O ([4,5],[]))) (.ret)) (.skip))) (.seq (.bh ao0 (O ([4,5],[]))) (.ret))))))),58,[.t 4,.t 5]⟩
def m39:lz af (pol 39) 39=O Wa:=aH
noncomputable def Ab:=sV Tryz.f72 [26,60]
noncomputable def QS:=rg Ab 0
noncomputable def adh:=rg Ab 1
noncomputable def aks:=rg Ab 2
noncomputable def ajy:=rg Ab 3
noncomputable def agT:=rg Ab 4
noncomputable def My:=rg Ab 5
noncomputable def TK:=rg Ab 6
noncomputable def Ur:=rg Ab 7
noncomputable def aom:=rg Ab 8
noncomputable def P3:=rg Ab 9
noncomputable def EO:CC:=.seq (.bh My (O ([0,1,34,35,36,37],[]))) (.seq (.cond (.t 37) (.skip) (.exit 0)) (.seq (.block 1 (.seq (.bh TK (O ([0,1,4,5,34,35,36],[]))) (.seq (.bh Ur (O ([0,1,4,34,35,36,57],[]))) (.cond (.t 57) (.bh aom (O ([0,1,34,35,36],[]))) (.skip))))) (.bh P3 (O ([0,1,34,35,36],[])))))
noncomputable def MA:CC:=.loop (O ([0,1,34,35,36],[])) EO
def axF:LE MA EO ([0,1,34,35,36],[]):=rn
noncomputable def QI:lU:=⟨.seq (.seq (.bh QS (O ([0,1,11],[]))) (.cond (.t 11) (.ret) (.skip))) (.seq (.seq (.bh adh (O ([0,1,20],[]))) (.cond (.t 20) (.seq (.bh aks (O ([],[]))) (.ret)) (.skip))) (.seq (.bh ajy (O ([0,1],[]))) (.seq (.bh agT (O ([0,1,34,35,36],[]))) (.block 0 (MA))))),66,[]⟩
def m72:lz af (pol 72) 72=O QI:=aH
noncomputable def wY:=sV Tryz.f143 [29,42,70,97]
noncomputable def Rt:=rg wY 0
noncomputable def ada:=rg wY 1
noncomputable def aib:=rg wY 2
noncomputable def aoM:=rg wY 3
noncomputable def afq:=rg wY 4
noncomputable def ajJ:=rg wY 5
noncomputable def afC:=rg wY 6
noncomputable def NU:=rg wY 7
noncomputable def QA:=rg wY 8
noncomputable def R0:=rg wY 9
noncomputable def ae1:=rg wY 10
noncomputable def Tq:=rg wY 11
noncomputable def Fe:CC:=.seq (.bh NU (O ([0,1,2,7,78,79,80,81],[7]))) (.seq (.cond (.t 81) (.skip) (.exit 0)) (.seq (.block 1 (.seq (.bh QA (O ([0,1,2,7,8,9,78,79,80],[7,9]))) (.seq (.bh R0 (O ([0,1,2,7,8,78,79,80,93],[7]))) (.cond (.t 93) (.bh ae1 (O ([0,1,2,7,78,79,80],[7]))) (.skip))))) (.bh Tq (O ([0,1,2,7,78,79,80],[7])))))
noncomputable def NQ:CC:=.loop (O ([0,1,2,7,78,79,80],[7])) Fe
def aJC:LE NQ Fe ([0,1,2,7,78,79,80],[7]):=rn
noncomputable def Rf:lU:=⟨.seq (.seq (.bh Rt (O ([0,1,2,15],[]))) (.cond (.t 15) (.ret) (.skip))) (.seq (.seq (.bh ada (O ([0,1,2,24],[]))) (.cond (.t 24) (.seq (.xQ aib (Tp Tryz.f143 2) (O ([],[]))) (.ret)) (.skip))) (.seq (.bh aoM (O ([0,1,2,6],[6]))) (.seq (.xQ afq (Tp Tryz.f143 4) (O ([0,1,2,7],[7]))) (.seq (.bh ajJ (O ([0,1,2,7],[7]))) (.seq (.bh afC (O ([0,1,2,7,78,79,80],[7]))) (.block 0 (NQ))))))),103,[]⟩
def axr:lz af (pol 143) 143=O Rf:=aH
noncomputable def aeN:=sV Tryz.f145 []
noncomputable def aky:=rg aeN 0
noncomputable def aeG:=rg aeN 1
noncomputable def ags:lU:=⟨.seq (.bh aky (O ([0,1],[]))) (.seq (.bh aeG (O ([4],[]))) (.ret)),9,[.t 4]⟩
def aGi:lz af (pol 145) 145=O ags:=aH
noncomputable def anJ:=sV Tryz.f197 []
noncomputable def ae0:=rg anJ 0
noncomputable def aet:=rg anJ 1
noncomputable def ajm:lU:=⟨.seq (.bh ae0 (O ([1,2,3],[3]))) (.seq (.bh aet (O ([6],[]))) (.ret)),12,[.t 6]⟩
def aI3:lz af (pol 197) 197=O ajm:=aH
noncomputable def Ej:=sV Tryz.f201 []
noncomputable def Xu:=rg Ej 0
noncomputable def Y6:=rg Ej 1
noncomputable def RW:=rg Ej 2
noncomputable def ac8:=rg Ej 3
noncomputable def Z8:=rg Ej 4
noncomputable def acP:=rg Ej 5
noncomputable def acN:=rg Ej 6
noncomputable def HO:CC:=.seq (.bh RW (O ([0,1,7,8,9],[]))) (.seq (.cond (.t 9) (.skip) (.exit 0)) (.seq (.block 1 (.seq (.bh ac8 (O ([0,1,5,7,8],[]))) (.seq (.bh Z8 (O ([0,1,5,7,8,16],[]))) (.cond (.t 16) (.seq (.bh acP (O ([4],[]))) (.ret)) (.skip))))) (.bh acN (O ([0,1,7,8],[])))))
noncomputable def L3:CC:=.loop (O ([0,1,7,8],[])) HO
def aFH:LE L3 HO ([0,1,7,8],[]):=rn
noncomputable def abZ:=rg Ej 7
noncomputable def Ue:lU:=⟨.seq (.bh Xu (O ([0,1],[]))) (.seq (.seq (.bh Y6 (O ([0,1,7,8],[]))) (.block 0 (L3))) (.seq (.bh abZ (O ([4],[]))) (.ret))),19,[.t 4]⟩
def akI:lz af (pol 201) 201=O Ue:=aH
noncomputable def yr:=sV Tryz.f234 [4,5,10,29]
noncomputable def afs:=rg yr 0
noncomputable def ajE:=rg yr 1
noncomputable def ann:=rg yr 2
noncomputable def Qz:=rg yr 3
noncomputable def aco:=rg yr 4
noncomputable def Y4:=rg yr 5
noncomputable def adt:=rg yr 6
noncomputable def ado:=rg yr 7
noncomputable def ab5:=rg yr 8
noncomputable def WE:=rg yr 9
noncomputable def I6:CC:=.seq (.bh Qz (O ([1,5,12,13,14],[10]))) (.seq (.cond (.t 14) (.skip) (.exit 0)) (.seq (.block 1 (.seq (.bh aco (O ([1,5,6,12,13],[10]))) (.seq (.bh Y4 (O ([1,5,6,7,8,12,13],[10]))) (.seq (.seq (.bh adt (O ([1,5,6,7,12,13,23],[10]))) (.cond (.t 23) (.bh ado (O ([1,5,6,7,12,13],[10]))) (.skip))) (.bh ab5 (O ([1,5,12,13],[10]))))))) (.bh WE (O ([1,5,12,13],[10])))))
noncomputable def Q3:CC:=.loop (O ([1,5,12,13],[10])) I6
def awD:LE Q3 I6 ([1,5,12,13],[10]):=rn
noncomputable def aj7:=rg yr 10
noncomputable def aif:lU:=⟨.seq (.bh afs (O ([0,1],[]))) (.seq (.bh ajE (O ([1,5],[10]))) (.seq (.seq (.bh ann (O ([1,5,12,13],[10]))) (.block 0 (Q3))) (.seq (.wb [10] aj7 (O ([4],[10]))) (.ret)))),30,[.t 4]⟩
def aAD:lz af (pol 234) 234=O aif:=aH
noncomputable def tX:=sV Tryz.f235 [12,13,19,58]
noncomputable def anq:=rg tX 0
noncomputable def aps:=rg tX 1
noncomputable def ajC:=rg tX 2
noncomputable def abT:=rg tX 3
noncomputable def aff:=rg tX 4
noncomputable def ao1:=rg tX 5
noncomputable def ajG:=rg tX 6
noncomputable def NY:CC:=.seq (.bh abT (O ([1,3,4,5,13,20,21,22,23],[19]))) (.seq (.cond (.t 23) (.skip) (.exit 0)) (.seq (.block 1 (.seq (.bh aff (O ([1,3,4,5,13,14,15,20,21,22],[19]))) (.bh ao1 (O ([1,3,4,5,13,20,21,22],[19]))))) (.bh ajG (O ([1,3,4,5,13,20,21,22],[19])))))
noncomputable def PJ:CC:=.loop (O ([1,3,4,5,13,20,21,22],[19])) NY
def aCI:LE PJ NY ([1,3,4,5,13,20,21,22],[19]):=rn
noncomputable def amK:=rg tX 7
noncomputable def SB:=rg tX 8
noncomputable def Z0:=rg tX 9
noncomputable def YR:=rg tX 10
noncomputable def amu:=rg tX 11
noncomputable def ah7:=rg tX 12
noncomputable def aaL:=rg tX 13
noncomputable def HS:CC:=.seq (.bh SB (O ([5,13,42,43,44],[19]))) (.seq (.cond (.t 44) (.skip) (.exit 2)) (.seq (.block 3 (.seq (.bh Z0 (O ([5,13,16,42,43],[19]))) (.seq (.bh YR (O ([5,13,16,42,43,50],[19]))) (.cond (.t 50) (.seq (.bh amu (O ([5,13,42,43],[19]))) (.bh ah7 (O ([5,13,42,43],[19])))) (.skip))))) (.bh aaL (O ([5,13,42,43],[19])))))
noncomputable def SQ:CC:=.loop (O ([5,13,42,43],[19])) HS
def avv:LE SQ HS ([5,13,42,43],[19]):=rn
noncomputable def anN:=rg tX 14
noncomputable def ahp:lU:=⟨.seq (.bh anq (O ([0,1,2,3,4,5],[]))) (.seq (.bh aps (O ([1,2,3,4,5,13],[19]))) (.seq (.seq (.bh ajC (O ([1,3,4,5,13,20,21,22],[19]))) (.block 0 (PJ))) (.seq (.seq (.bh amK (O ([5,13,42,43],[19]))) (.block 2 (SQ))) (.seq (.wb [19] anN (O ([12],[19]))) (.ret))))),59,[.t 12]⟩
def aJP:lz af (pol 235) 235=O ahp:=aH
noncomputable def Cr:=sV Tryz.f263 [4,5,10,25]
noncomputable def aiu:=rg Cr 0
noncomputable def ajZ:=rg Cr 1
noncomputable def ag9:=rg Cr 2
noncomputable def RB:=rg Cr 3
noncomputable def U3:=rg Cr 4
noncomputable def Zz:=rg Cr 5
noncomputable def al6:=rg Cr 6
noncomputable def abh:=rg Cr 7
noncomputable def I4:CC:=.seq (.bh RB (O ([5,11,12,13,14],[10]))) (.seq (.cond (.t 14) (.skip) (.exit 0)) (.seq (.block 1 (.seq (.bh U3 (O ([5,6,7,11,12,13],[10]))) (.seq (.bh Zz (O ([5,6,7,11,12,13,19],[10]))) (.cond (.t 19) (.bh al6 (O ([5,11,12,13],[10]))) (.skip))))) (.bh abh (O ([5,11,12,13],[10])))))
noncomputable def Ry:CC:=.loop (O ([5,11,12,13],[10])) I4
def aDH:LE Ry I4 ([5,11,12,13],[10]):=rn
noncomputable def amY:=rg Cr 8
noncomputable def aeX:lU:=⟨.seq (.bh aiu (O ([0,1],[]))) (.seq (.bh ajZ (O ([0,5],[10]))) (.seq (.seq (.bh ag9 (O ([5,11,12,13],[10]))) (.block 0 (Ry))) (.seq (.wb [10] amY (O ([4],[10]))) (.ret)))),26,[.t 4]⟩
def ast:lz af (pol 263) 263=O aeX:=aH
noncomputable def tF:=sV Tryz.f291 [10,39,42]
noncomputable def ak7:=rg tF 0
noncomputable def aki:=rg tF 1
noncomputable def aoI:=rg tF 2
noncomputable def Qu:=rg tF 3
noncomputable def ZG:=rg tF 4
noncomputable def abk:=rg tF 5
noncomputable def aa7:=rg tF 6
noncomputable def aac:=rg tF 7
noncomputable def IN:CC:=.seq (.bh Qu (O ([2,7,15,16,17,18],[14]))) (.seq (.cond (.t 18) (.skip) (.exit 0)) (.seq (.block 1 (.seq (.bh ZG (O ([2,7,8,9,15,16,17],[14]))) (.seq (.bh abk (O ([2,7,9,15,16,17,25],[14]))) (.cond (.t 25) (.bh aa7 (O ([2,7,15,16,17],[14]))) (.skip))))) (.bh aac (O ([2,7,15,16,17],[14])))))
noncomputable def S4:CC:=.loop (O ([2,7,15,16,17],[14])) IN
def awq:LE S4 IN ([2,7,15,16,17],[14]):=rn
noncomputable def am9:=rg tF 8
noncomputable def agw:=rg tF 9
noncomputable def Pf:=rg tF 10
noncomputable def ZX:=rg tF 11
noncomputable def acf:=rg tF 12
noncomputable def X6:=rg tF 13
noncomputable def XY:=rg tF 14
noncomputable def Hx:CC:=.seq (.bh Pf (O ([10,30,31,32,33],[14]))) (.seq (.cond (.t 33) (.skip) (.exit 2)) (.seq (.block 3 (.seq (.bh ZX (O ([10,11,12,30,31,32],[14]))) (.seq (.bh acf (O ([10,11,30,31,32,38],[14]))) (.cond (.t 38) (.bh X6 (O ([10,30,31,32],[14]))) (.skip))))) (.bh XY (O ([10,30,31,32],[14])))))
noncomputable def Su:CC:=.loop (O ([10,30,31,32],[14])) Hx
def aBi:LE Su Hx ([10,30,31,32],[14]):=rn
noncomputable def aii:=rg tF 15
noncomputable def ae3:lU:=⟨.seq (.bh ak7 (O ([0,1,2],[]))) (.seq (.bh aki (O ([1,2,7],[14]))) (.seq (.seq (.bh aoI (O ([2,7,15,16,17],[14]))) (.block 0 (S4))) (.seq (.bh am9 (O ([7,10],[14]))) (.seq (.seq (.bh agw (O ([10,30,31,32],[14]))) (.block 2 (Su))) (.seq (.bh aii (O ([6],[]))) (.ret)))))),45,[.t 6]⟩
def awW:lz af (pol 291) 291=O ae3:=aH
noncomputable def ux:=sV Tryz.f299 [2,3,36,39,41]
noncomputable def aeF:=rg ux 0
noncomputable def ahr:=rg ux 1
noncomputable def ahP:=rg ux 2
noncomputable def ac1:=rg ux 3
noncomputable def apn:=rg ux 4
noncomputable def ahJ:=rg ux 5
noncomputable def agc:=rg ux 6
noncomputable def af6:=rg ux 7
noncomputable def aaA:=rg ux 8
noncomputable def agB:=rg ux 9
noncomputable def apw:=rg ux 10
noncomputable def aiF:=rg ux 11
noncomputable def MR:CC:=.seq (.bh aaA (O ([1,3,5,12,13,26,27,28,29],[1,19]))) (.seq (.cond (.t 29) (.skip) (.exit 2)) (.seq (.block 3 (.seq (.bh agB (O ([1,3,5,9,12,13,26,27,28],[1,19]))) (.bh apw (O ([1,3,5,12,13,26,27,28],[1,19]))))) (.bh aiF (O ([1,3,5,12,13,26,27,28],[1,19])))))
noncomputable def Pt:CC:=.loop (O ([1,3,5,12,13,26,27,28],[1,19])) MR
def aBH:LE Pt MR ([1,3,5,12,13,26,27,28],[1,19]):=rn
noncomputable def akc:=rg ux 12
noncomputable def aoh:=rg ux 13
noncomputable def Og:CC:=.seq (.bh ac1 (O ([1,3,12,13,14],[1]))) (.seq (.cond (.t 14) (.skip) (.exit 0)) (.seq (.block 1 (.seq (.bh apn (O ([1,3,4,12,13],[1]))) (.seq (.bh ahJ (O ([1,3,4,5,12,13],[1,19]))) (.seq (.bh agc (O ([1,3,5,6,12,13],[1,19]))) (.seq (.seq (.bh af6 (O ([1,3,5,12,13,26,27,28],[1,19]))) (.block 2 (Pt))) (.wb [19] akc (O ([1,3,12,13],[1])))))))) (.bh aoh (O ([1,3,12,13],[1])))))
noncomputable def P6:CC:=.loop (O ([1,3,12,13],[1])) Og
def aHT:LE P6 Og ([1,3,12,13],[1]):=rn
noncomputable def aoE:=rg ux 14
noncomputable def aoJ:lU:=⟨.seq (.bh aeF (O ([1],[1]))) (.seq (.bh ahr (O ([1,3],[1]))) (.seq (.seq (.bh ahP (O ([1,3,12,13],[1]))) (.block 0 (P6))) (.seq (.bh aoE (O ([2],[]))) (.ret)))),42,[.t 2]⟩
def aAV:lz af (pol 299) 299=O aoJ:=aH
noncomputable def TY:=sV Tryz.f300 [12,25,120,123,136,190,193,204]
noncomputable def ajg:=rg TY 7
noncomputable def Ep:=rg TY 8
noncomputable def amh:=rg TY 10
noncomputable def Sb:=rg TY 19
noncomputable def DN:=sV Tryz.f317 []
noncomputable def alJ:=rg DN 0
noncomputable def ahx:=rg DN 1
noncomputable def ajI:=rg DN 2
noncomputable def Yt:=rg DN 3
noncomputable def ajU:=rg DN 4
noncomputable def afM:=rg DN 5
noncomputable def ajV:=rg DN 6
noncomputable def MG:CC:=.seq (.bh Yt (O ([3,8,9,10],[6]))) (.seq (.cond (.t 10) (.skip) (.exit 0)) (.seq (.block 1 (.seq (.bh ajU (O ([3,4,8,9],[6]))) (.bh afM (O ([3,8,9],[6]))))) (.bh ajV (O ([3,8,9],[6])))))
noncomputable def acA:CC:=.loop (O ([3,8,9],[6])) MG
def asm:LE acA MG ([3,8,9],[6]):=rn
noncomputable def afy:=rg DN 7
noncomputable def aja:lU:=⟨.seq (.bh alJ (O ([0],[]))) (.seq (.bh ahx (O ([3],[6]))) (.seq (.seq (.bh ajI (O ([3,8,9],[6]))) (.block 0 (acA))) (.seq (.wb [6] afy (O ([2],[6]))) (.ret)))),18,[.t 2]⟩
def atB:lz af (pol 317) 317=O aja:=aH
noncomputable def rS:=sV Tryz.f347 []
noncomputable def Ze:=rg rS 0
noncomputable def Y9:=rg rS 1
noncomputable def acj:=rg rS 2
noncomputable def NF:=rg rS 3
noncomputable def QU:=rg rS 4
noncomputable def PK:=rg rS 5
noncomputable def aa2:=rg rS 6
noncomputable def aa5:=rg rS 7
noncomputable def Ud:=rg rS 8
noncomputable def Zq:=rg rS 9
noncomputable def abo:=rg rS 10
noncomputable def an6:=rg rS 11
noncomputable def agx:=rg rS 12
noncomputable def Ie:CC:=.seq (.bh Ud (O ([0,3,4,6,18,19,20,37,38,39],[]))) (.seq (.cond (.t 39) (.skip) (.exit 2)) (.seq (.block 3 (.seq (.bh Zq (O ([0,3,4,6,7,18,19,20,37,38],[]))) (.seq (.bh abo (O ([0,3,4,6,18,19,20,37,38,44],[]))) (.cond (.t 44) (.seq (.bh an6 (O ([0,3,6,18,19,20],[]))) (.exit 2)) (.skip))))) (.bh agx (O ([0,3,4,6,18,19,20,37,38],[])))))
noncomputable def Rn:CC:=.loop (O ([0,3,4,6,18,19,20,37,38],[])) Ie
def aJ6:LE Rn Ie ([0,3,4,6,18,19,20,37,38],[]):=rn
noncomputable def WR:=rg rS 13
noncomputable def aee:=rg rS 14
noncomputable def X8:=rg rS 15
noncomputable def ED:CC:=.seq (.bh NF (O ([0,3,18,19,20,21],[]))) (.seq (.cond (.t 21) (.skip) (.exit 0)) (.seq (.block 1 (.seq (.bh QU (O ([0,3,4,5,18,19,20],[5]))) (.seq (.seq (.bh PK (O ([0,3,4,18,19,20,31],[]))) (.cond (.t 31) (.exit 1) (.skip))) (.seq (.bh aa2 (O ([0,3,4,6,18,19,20],[]))) (.seq (.seq (.bh aa5 (O ([0,3,4,6,18,19,20,37,38],[]))) (.block 2 (Rn))) (.seq (.bh WR (O ([0,3,18,19,20,47],[]))) (.cond (.t 47) (.seq (.bh aee (O ([2],[]))) (.ret)) (.skip)))))))) (.bh X8 (O ([0,3,18,19,20],[])))))
noncomputable def UC:CC:=.loop (O ([0,3,18,19,20],[])) ED
def aD2:LE UC ED ([0,3,18,19,20],[]):=rn
noncomputable def XU:=rg rS 16
noncomputable def RH:lU:=⟨.seq (.bh Ze (O ([0],[]))) (.seq (.bh Y9 (O ([0,3],[]))) (.seq (.seq (.bh acj (O ([0,3,18,19,20],[]))) (.block 0 (UC))) (.seq (.bh XU (O ([2],[]))) (.ret)))),49,[.t 2]⟩
def aBZ:lz af (pol 347) 347=O RH:=aH
noncomputable def HC:=sV Tryz.f348 []
noncomputable def PQ:=rg HC 0
noncomputable def RV:=rg HC 1
noncomputable def ON:=rg HC 2
noncomputable def Rq:=rg HC 3
noncomputable def aoA:=rg HC 4
noncomputable def abR:=rg HC 5
noncomputable def MJ:lU:=⟨.seq (.bh PQ (O ([0,1,2],[]))) (.seq (.bh RV (O ([0,1,2,7],[7]))) (.seq (.seq (.bh ON (O ([0,2,7,8],[7]))) (.seq (.bh Rq (O ([0,2,7,30],[7]))) (.cond (.t 30) (.seq (.bh aoA (O ([6],[]))) (.ret)) (.skip)))) (.seq (.xQ abR (Tp Tryz.f348 5) (O ([6],[]))) (.ret)))),59,[.t 6]⟩
def aHN:lz af (pol 348) 348=O MJ:=aH
noncomputable def CH:=sV Tryz.f392 []
noncomputable def amC:=rg CH 0
noncomputable def ahW:=rg CH 1
noncomputable def agJ:=rg CH 2
noncomputable def Wk:=rg CH 3
noncomputable def apf:=rg CH 4
noncomputable def amr:=rg CH 5
noncomputable def agD:=rg CH 6
noncomputable def Od:CC:=.seq (.bh Wk (O ([2,7,13,14,15,16],[12]))) (.seq (.cond (.t 16) (.skip) (.exit 0)) (.seq (.block 1 (.seq (.bh apf (O ([2,7,8,9,13,14,15],[12]))) (.bh amr (O ([2,7,13,14,15],[12]))))) (.bh agD (O ([2,7,13,14,15],[12])))))
noncomputable def QW:CC:=.loop (O ([2,7,13,14,15],[12])) Od
def aD3:LE QW Od ([2,7,13,14,15],[12]):=rn
noncomputable def aoL:=rg CH 7
noncomputable def afw:lU:=⟨.seq (.bh amC (O ([0,1,2],[]))) (.seq (.bh ahW (O ([1,2,7],[12]))) (.seq (.seq (.bh agJ (O ([2,7,13,14,15],[12]))) (.block 0 (QW))) (.seq (.wb [12] aoL (O ([6],[12]))) (.ret)))),29,[.t 6]⟩
def aAS:lz af (pol 392) 392=O afw:=aH
end
end Go.Abs
