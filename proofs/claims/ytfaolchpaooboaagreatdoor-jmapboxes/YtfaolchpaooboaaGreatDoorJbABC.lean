/- Part of the claim: facts that its last text uses. No conditions. -/
import Derived.Test.YtfaolchpaooboaaGreatDoorJbABB
import Derived.KernelRfl
set_option linter.all false
noncomputable section
namespace Go.Proofs.Jm
open Go Go.Proofs Go.Vm
set_option maxRecDepth 100000
set_option maxHeartbeats 4000000
theorem aJD:aK ah 39 ea168 AA ec168 adR acD=true:=by kernel_rfl
theorem aIv:(mkO ah (AA.map some)).next.nat=45:=by kernel_rfl
theorem aLU:aT ah 45 (patch (AA.map some) ec168++adR.map some) aKL acD (dn ea168 (mkO ah (AA.map some)))=true:=by kernel_rfl
theorem aJP:aK ah 12 ea156 A8 ec156 ad4 acP=true:=by kernel_rfl
theorem aIH:(mkO ah (A8.map some)).next.nat=18:=by kernel_rfl
theorem aL6:aT ah 18 (patch (A8.map some) ec156++ad4.map some) aKX acP (bF ea156 (mkO ah (A8.map some)))=true:=by kernel_rfl
theorem aPY:aK ah 25 ea91 KQ ec91 apj anx=true:=by kernel_rfl
theorem aOw:(mkO ah (KQ.map some)).next.nat=31:=by kernel_rfl
theorem aSR:aT ah 31 (patch (KQ.map some) ec91++apj.map some) aRp anx (dn ea91 (mkO ah (KQ.map some)))=true:=by kernel_rfl
theorem aPX:aK ah 1 ea92 KP ec92 aph anw=true:=by kernel_rfl
theorem aOv:(mkO ah (KP.map some)).next.nat=7:=by kernel_rfl
theorem aSQ:aT ah 7 (patch (KP.map some) ec92++aph.map some) aRo anw (dD ea92 (mkO ah (KP.map some)))=true:=by kernel_rfl
theorem aQk:aK ah 21 ar8 LG aqZ apG anU=true:=by kernel_rfl
theorem aOS:(mkO ah (LG.map some)).next.nat=27:=by kernel_rfl
theorem aTd:aT ah 27 (patch (LG.map some) aqZ++apG.map some) aRL anU (dn ar8 (mkO ah (LG.map some)))=true:=by kernel_rfl
theorem aJG:aK ah 38 afJ AO ae3 adU acG=true:=by kernel_rfl
theorem aIy:(mkO ah (AO.map some)).next.nat=44:=by kernel_rfl
theorem aLX:aT ah 44 (patch (AO.map some) ae3++adU.map some) aKO acG (dn afJ (mkO ah (AO.map some)))=true:=by kernel_rfl
theorem aKF:aK ah 24 ea104 Di ec104 aeW adJ=true:=by kernel_rfl
theorem aJx:(mkO ah (Di.map some)).next.nat=30:=by kernel_rfl
theorem aMW:aT ah 30 (patch (Di.map some) ec104++aeW.map some) aLO adJ (dB ea104 (mkO ah (Di.map some)))=true:=by kernel_rfl
theorem aQz:aK ah 18 asr L9 arh apV an9=true:=by kernel_rfl
theorem aO7:(mkO ah (L9.map some)).next.nat=24:=by kernel_rfl
theorem aTs:aT ah 24 (patch (L9.map some) arh++apV.map some) aR0 an9 (bF asr (mkO ah (L9.map some)))=true:=by kernel_rfl
theorem aPT:aK ah 22 ea96 KJ ec96 apd anr=true:=by kernel_rfl
theorem aOr:(mkO ah (KJ.map some)).next.nat=28:=by kernel_rfl
theorem aSM:aT ah 28 (patch (KJ.map some) ec96++apd.map some) aRk anr (dB ea96 (mkO ah (KJ.map some)))=true:=by kernel_rfl
theorem aKt:aK ah 1 ea116 CP ec116 aeK adx=true:=by kernel_rfl
theorem aJl:(mkO ah (CP.map some)).next.nat=7:=by kernel_rfl
theorem aMK:aT ah 7 (patch (CP.map some) ec116++aeK.map some) aLC adx (dA ea116 (mkO ah (CP.map some)))=true:=by kernel_rfl
theorem aJ1:aK ah 1 afP BA ae9 aeg ac1=true:=by kernel_rfl
theorem aIT:(mkO ah (BA.map some)).next.nat=7:=by kernel_rfl
theorem aMi:aT ah 7 (patch (BA.map some) ae9++aeg.map some) aLa ac1 (dD afP (mkO ah (BA.map some)))=true:=by kernel_rfl
theorem aQV:aK ah 14 ea32 MZ ec32 aqh aov=true:=by kernel_rfl
theorem aPt:(mkO ah (MZ.map some)).next.nat=20:=by kernel_rfl
theorem aTO:aT ah 20 (patch (MZ.map some) ec32++aqh.map some) aSm aov (bF ea32 (mkO ah (MZ.map some)))=true:=by kernel_rfl
theorem aKy:aK ah 1 ea111 CW ec111 aeP adC=true:=by kernel_rfl
theorem aJq:(mkO ah (CW.map some)).next.nat=7:=by kernel_rfl
theorem aMP:aT ah 7 (patch (CW.map some) ec111++aeP.map some) aLH adC (dD ea111 (mkO ah (CW.map some)))=true:=by kernel_rfl
theorem aPU:aK ah 26 ea95 KL ec95 ape ant=true:=by kernel_rfl
theorem aOs:(mkO ah (KL.map some)).next.nat=32:=by kernel_rfl
theorem aSN:aT ah 32 (patch (KL.map some) ec95++ape.map some) aRl ant (bF ea95 (mkO ah (KL.map some)))=true:=by kernel_rfl
theorem aQS:aK ah 12 ea35 MV ec35 aqe aos=true:=by kernel_rfl
theorem aPq:(mkO ah (MV.map some)).next.nat=18:=by kernel_rfl
theorem aTL:aT ah 18 (patch (MV.map some) ec35++aqe.map some) aSj aos (bF ea35 (mkO ah (MV.map some)))=true:=by kernel_rfl
theorem aQJ:aK ah 16 ea44 MJ ec44 ap5 aoj=true:=by kernel_rfl
theorem aPh:(mkO ah (MJ.map some)).next.nat=22:=by kernel_rfl
theorem aTC:aT ah 22 (patch (MJ.map some) ec44++ap5.map some) aSa aoj (dn ea44 (mkO ah (MJ.map some)))=true:=by kernel_rfl
theorem aQP:aK ah 12 ea38 MQ ec38 aqb aop=true:=by kernel_rfl
theorem aPn:(mkO ah (MQ.map some)).next.nat=18:=by kernel_rfl
theorem aTI:aT ah 18 (patch (MQ.map some) ec38++aqb.map some) aSg aop (dB ea38 (mkO ah (MQ.map some)))=true:=by kernel_rfl
theorem aQI:aK ah 1 asB MI ars ap4 aoi=true:=by kernel_rfl
theorem aPg:(mkO ah (MI.map some)).next.nat=7:=by kernel_rfl
theorem aTB:aT ah 7 (patch (MI.map some) ars++ap4.map some) aR9 aoi (dD asB (mkO ah (MI.map some)))=true:=by kernel_rfl
theorem aQ9:aK ah 12 asL Nw arE aqw aoJ=true:=by kernel_rfl
theorem aPH:(mkO ah (Nw.map some)).next.nat=18:=by kernel_rfl
theorem aT2:aT ah 18 (patch (Nw.map some) arE++aqw.map some) aSA aoJ (bF asL (mkO ah (Nw.map some)))=true:=by kernel_rfl
theorem es3:aK ah 10 ea3 ek3 ec3 en3 er3=true:=by kernel_rfl
theorem ex3:(mkO ah (ek3.map some)).next.nat=16:=by kernel_rfl
theorem eh3:aT ah 16 (patch (ek3.map some) ec3++en3.map some) el3 er3 (bF ea3 (mkO ah (ek3.map some)))=true:=by kernel_rfl
theorem es7:aK ah 1 ea7 ek7 ec7 en7 er7=true:=by kernel_rfl
theorem ex7:(mkO ah (ek7.map some)).next.nat=7:=by kernel_rfl
theorem eh7:aT ah 7 (patch (ek7.map some) ec7++en7.map some) el7 er7 (dA ea7 (mkO ah (ek7.map some)))=true:=by kernel_rfl
end Go.Proofs.Jm
