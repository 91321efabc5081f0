/- Part of the claim: facts that its last text uses. No conditions. -/
import Derived.Test.YtfaolchpaooboaaGreatDoorJbABB
import Derived.KernelRfl
set_option linter.all false
noncomputable section
namespace Go.Proofs.Jm
open Go Go.Proofs Go.Vm
set_option maxRecDepth 100000
set_option maxHeartbeats 4000000
theorem aKa:aK ah 33 afY BM afi aep ada=true:=by kernel_rfl
theorem aI2:(mkO ah (BM.map some)).next.nat=39:=by kernel_rfl
theorem aMr:aT ah 39 (patch (BM.map some) afi++aep.map some) aLj ada (dn afY (mkO ah (BM.map some)))=true:=by kernel_rfl
theorem aJS:aK ah 36 ea153 Bd ec153 ad7 acS=true:=by kernel_rfl
theorem aIK:(mkO ah (Bd.map some)).next.nat=42:=by kernel_rfl
theorem aL9:aT ah 42 (patch (Bd.map some) ec153++ad7.map some) aK1 acS (bF ea153 (mkO ah (Bd.map some)))=true:=by kernel_rfl
theorem aKv:aK ah 1 ea114 CS ec114 aeM adz=true:=by kernel_rfl
theorem aJn:(mkO ah (CS.map some)).next.nat=7:=by kernel_rfl
theorem aMM:aT ah 7 (patch (CS.map some) ec114++aeM.map some) aLE adz (dD ea114 (mkO ah (CS.map some)))=true:=by kernel_rfl
theorem aKA:aK ah 28 agm CY afC aeR adE=true:=by kernel_rfl
theorem aJs:(mkO ah (CY.map some)).next.nat=34:=by kernel_rfl
theorem aMR:aT ah 34 (patch (CY.map some) afC++aeR.map some) aLJ adE (bF agm (mkO ah (CY.map some)))=true:=by kernel_rfl
theorem aJ8:aK ah 30 afW BK afg aen ac8=true:=by kernel_rfl
theorem aI0:(mkO ah (BK.map some)).next.nat=36:=by kernel_rfl
theorem aMp:aT ah 36 (patch (BK.map some) afg++aen.map some) aLh ac8 (dB afW (mkO ah (BK.map some)))=true:=by kernel_rfl
theorem aQd:aK ah 22 ar0 Lm aqS apz anN=true:=by kernel_rfl
theorem aOL:(mkO ah (Lm.map some)).next.nat=28:=by kernel_rfl
theorem aS6:aT ah 28 (patch (Lm.map some) aqS++apz.map some) aRE anN (bF ar0 (mkO ah (Lm.map some)))=true:=by kernel_rfl
theorem aQv:aK ah 19 asl LY ara apR an5=true:=by kernel_rfl
theorem aO3:(mkO ah (LY.map some)).next.nat=25:=by kernel_rfl
theorem aTo:aT ah 25 (patch (LY.map some) ara++apR.map some) aRW an5 (dn asl (mkO ah (LY.map some)))=true:=by kernel_rfl
theorem aQa:aK ah 12 arX Lh aqP apw anK=true:=by kernel_rfl
theorem aOI:(mkO ah (Lh.map some)).next.nat=18:=by kernel_rfl
theorem aS3:aT ah 18 (patch (Lh.map some) aqP++apw.map some) aRB anK (bF arX (mkO ah (Lh.map some)))=true:=by kernel_rfl
theorem aKi:aK ah 1 af8 BZ afq aez adl=true:=by kernel_rfl
theorem aJa:(mkO ah (BZ.map some)).next.nat=7:=by kernel_rfl
theorem aMz:aT ah 7 (patch (BZ.map some) afq++aez.map some) aLr adl (dA af8 (mkO ah (BZ.map some)))=true:=by kernel_rfl
theorem aP7:aK ah 20 arU Lc aqM apt anH=true:=by kernel_rfl
theorem aOF:(mkO ah (Lc.map some)).next.nat=26:=by kernel_rfl
theorem aS0:aT ah 26 (patch (Lc.map some) aqM++apt.map some) aRy anH (dB arU (mkO ah (Lc.map some)))=true:=by kernel_rfl
theorem aJ6:aK ah 34 afU BI afe ael ac6=true:=by kernel_rfl
theorem aIY:(mkO ah (BI.map some)).next.nat=40:=by kernel_rfl
theorem aMn:aT ah 40 (patch (BI.map some) afe++ael.map some) aLf ac6 (bF afU (mkO ah (BI.map some)))=true:=by kernel_rfl
theorem aQf:aK ah 18 ar2 Lr aqU apB anP=true:=by kernel_rfl
theorem aON:(mkO ah (Lr.map some)).next.nat=24:=by kernel_rfl
theorem aS8:aT ah 24 (patch (Lr.map some) aqU++apB.map some) aRG anP (dB ar2 (mkO ah (Lr.map some)))=true:=by kernel_rfl
theorem aQH:aK ah 12 asA MH arq ap3 aoh=true:=by kernel_rfl
theorem aPf:(mkO ah (MH.map some)).next.nat=18:=by kernel_rfl
theorem aTA:aT ah 18 (patch (MH.map some) arq++ap3.map some) aR8 aoh (bF asA (mkO ah (MH.map some)))=true:=by kernel_rfl
theorem aQn:aK ah 20 asb LK aq2 apJ anX=true:=by kernel_rfl
theorem aOV:(mkO ah (LK.map some)).next.nat=26:=by kernel_rfl
theorem aTg:aT ah 26 (patch (LK.map some) aq2++apJ.map some) aRO anX (dn asb (mkO ah (LK.map some)))=true:=by kernel_rfl
theorem aQy:aK ah 18 asq L8 arf apU an8=true:=by kernel_rfl
theorem aO6:(mkO ah (L8.map some)).next.nat=24:=by kernel_rfl
theorem aTr:aT ah 24 (patch (L8.map some) arf++apU.map some) aRZ an8 (dn asq (mkO ah (L8.map some)))=true:=by kernel_rfl
theorem es8:aK ah 10 ea8 ek8 ec8 en8 er8=true:=by kernel_rfl
theorem ex8:(mkO ah (ek8.map some)).next.nat=16:=by kernel_rfl
theorem eh8:aT ah 16 (patch (ek8.map some) ec8++en8.map some) el8 er8 (bF ea8 (mkO ah (ek8.map some)))=true:=by kernel_rfl
theorem aQx:aK ah 1 aso L6 ard apT an7=true:=by kernel_rfl
theorem aO5:(mkO ah (L6.map some)).next.nat=7:=by kernel_rfl
theorem aTq:aT ah 7 (patch (L6.map some) ard++apT.map some) aRY an7 (dD aso (mkO ah (L6.map some)))=true:=by kernel_rfl
theorem aQT:aK ah 1 ea34 MW ec34 aqf aot=true:=by kernel_rfl
theorem aPr:(mkO ah (MW.map some)).next.nat=7:=by kernel_rfl
theorem aTM:aT ah 7 (patch (MW.map some) ec34++aqf.map some) aSk aot (dD ea34 (mkO ah (MW.map some)))=true:=by kernel_rfl
theorem es9:aK ah 10 ea9 ek9 ec9 en9 er9=true:=by kernel_rfl
theorem ex9:(mkO ah (ek9.map some)).next.nat=16:=by kernel_rfl
theorem eh9:aT ah 16 (patch (ek9.map some) ec9++en9.map some) el9 er9 (dn ea9 (mkO ah (ek9.map some)))=true:=by kernel_rfl
theorem aQ8:aK ah 8 asK Nv arD aqv aoI=true:=by kernel_rfl
theorem aPG:(mkO ah (Nv.map some)).next.nat=14:=by kernel_rfl
theorem aT1:aT ah 14 (patch (Nv.map some) arD++aqv.map some) aSz aoI (dB asK (mkO ah (Nv.map some)))=true:=by kernel_rfl
theorem es4:aK ah 6 ea4 ek4 ec4 en4 er4=true:=by kernel_rfl
theorem ex4:(mkO ah (ek4.map some)).next.nat=12:=by kernel_rfl
theorem eh4:aT ah 12 (patch (ek4.map some) ec4++en4.map some) el4 er4 (dn ea4 (mkO ah (ek4.map some)))=true:=by kernel_rfl
end Go.Proofs.Jm
