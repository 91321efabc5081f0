/- Part of the claim: facts that its last text uses. No conditions. -/
import Derived.Test.YtfaolchpaooboaaGreatDoorJbABB
import Derived.KernelRfl
set_option linter.all false
noncomputable section
namespace Go.Proofs.Jm
open Go Go.Proofs Go.Vm
set_option maxRecDepth 100000
set_option maxHeartbeats 4000000
theorem aJY:aK ah 1 afM Bo ae6 aed acY=true:=by kernel_rfl
theorem aIQ:(mkO ah (Bo.map some)).next.nat=7:=by kernel_rfl
theorem aMf:aT ah 7 (patch (Bo.map some) ae6++aed.map some) aK7 acY (dD afM (mkO ah (Bo.map some)))=true:=by kernel_rfl
theorem aJ9:aK ah 1 afX BL afh aeo ac9=true:=by kernel_rfl
theorem aI1:(mkO ah (BL.map some)).next.nat=7:=by kernel_rfl
theorem aMq:aT ah 7 (patch (BL.map some) afh++aeo.map some) aLi ac9 (dD afX (mkO ah (BL.map some)))=true:=by kernel_rfl
theorem aKe:aK ah 32 af4 BR afm aev adg=true:=by kernel_rfl
theorem aI6:(mkO ah (BR.map some)).next.nat=38:=by kernel_rfl
theorem aMv:aT ah 38 (patch (BR.map some) afm++aev.map some) aLn adg (bF af4 (mkO ah (BR.map some)))=true:=by kernel_rfl
theorem aKb:aK ah 12 afZ BN afj aer adb=true:=by kernel_rfl
theorem aI3:(mkO ah (BN.map some)).next.nat=18:=by kernel_rfl
theorem aMs:aT ah 18 (patch (BN.map some) afj++aer.map some) aLk adb (bF afZ (mkO ah (BN.map some)))=true:=by kernel_rfl
theorem aKj:aK ah 28 af9 Cb afr aeA adn=true:=by kernel_rfl
theorem aJb:(mkO ah (Cb.map some)).next.nat=34:=by kernel_rfl
theorem aMA:aT ah 34 (patch (Cb.map some) afr++aeA.map some) aLs adn (dB af9 (mkO ah (Cb.map some)))=true:=by kernel_rfl
theorem aKI:aK ah 12 ea101 Dl ec101 aeZ adM=true:=by kernel_rfl
theorem aJA:(mkO ah (Dl.map some)).next.nat=18:=by kernel_rfl
theorem aMZ:aT ah 18 (patch (Dl.map some) ec101++aeZ.map some) aLR adM (bF ea101 (mkO ah (Dl.map some)))=true:=by kernel_rfl
theorem aQo:aK ah 20 asc LM aq3 apK anY=true:=by kernel_rfl
theorem aOW:(mkO ah (LM.map some)).next.nat=26:=by kernel_rfl
theorem aTh:aT ah 26 (patch (LM.map some) aq3++apK.map some) aRP anY (bF asc (mkO ah (LM.map some)))=true:=by kernel_rfl
theorem aKC:aK ah 24 agp C9 afE aeT adG=true:=by kernel_rfl
theorem aJu:(mkO ah (C9.map some)).next.nat=30:=by kernel_rfl
theorem aMT:aT ah 30 (patch (C9.map some) afE++aeT.map some) aLL adG (dB agp (mkO ah (C9.map some)))=true:=by kernel_rfl
theorem aKo:aK ah 30 agf Cm afw aeF ads=true:=by kernel_rfl
theorem aJg:(mkO ah (Cm.map some)).next.nat=36:=by kernel_rfl
theorem aMF:aT ah 36 (patch (Cm.map some) afw++aeF.map some) aLx ads (dn agf (mkO ah (Cm.map some)))=true:=by kernel_rfl
theorem aKq:aK ah 1 agi CG afy aeH adu=true:=by kernel_rfl
theorem aJi:(mkO ah (CG.map some)).next.nat=7:=by kernel_rfl
theorem aMH:aT ah 7 (patch (CG.map some) afy++aeH.map some) aLz adu (dA agi (mkO ah (CG.map some)))=true:=by kernel_rfl
theorem aQw:aK ah 12 asn LZ arb apS an6=true:=by kernel_rfl
theorem aO4:(mkO ah (LZ.map some)).next.nat=18:=by kernel_rfl
theorem aTp:aT ah 18 (patch (LZ.map some) arb++apS.map some) aRX an6 (bF asn (mkO ah (LZ.map some)))=true:=by kernel_rfl
theorem aQi:aK ah 18 ar6 LC aqX apE anS=true:=by kernel_rfl
theorem aOQ:(mkO ah (LC.map some)).next.nat=24:=by kernel_rfl
theorem aTb:aT ah 24 (patch (LC.map some) aqX++apE.map some) aRJ anS (dB ar6 (mkO ah (LC.map some)))=true:=by kernel_rfl
theorem aKs:aK ah 30 agk CO afA aeJ adw=true:=by kernel_rfl
theorem aJk:(mkO ah (CO.map some)).next.nat=36:=by kernel_rfl
theorem aMJ:aT ah 36 (patch (CO.map some) afA++aeJ.map some) aLB adw (bF agk (mkO ah (CO.map some)))=true:=by kernel_rfl
theorem aP6:aK ah 1 arT La aqL aps anG=true:=by kernel_rfl
theorem aOE:(mkO ah (La.map some)).next.nat=7:=by kernel_rfl
theorem aSZ:aT ah 7 (patch (La.map some) aqL++aps.map some) aRx anG (dA arT (mkO ah (La.map some)))=true:=by kernel_rfl
theorem aP5:aK ah 24 arS KZ aqK apr anF=true:=by kernel_rfl
theorem aOD:(mkO ah (KZ.map some)).next.nat=30:=by kernel_rfl
theorem aSY:aT ah 30 (patch (KZ.map some) aqK++apr.map some) aRw anF (bF arS (mkO ah (KZ.map some)))=true:=by kernel_rfl
theorem aQ1:aK ah 1 ea26 Nk ec26 aqn aoB=true:=by kernel_rfl
theorem aPz:(mkO ah (Nk.map some)).next.nat=7:=by kernel_rfl
theorem aTU:aT ah 7 (patch (Nk.map some) ec26++aqn.map some) aSs aoB (dD ea26 (mkO ah (Nk.map some)))=true:=by kernel_rfl
theorem aQC:aK ah 18 asv Me ark apY aoc=true:=by kernel_rfl
theorem aPa:(mkO ah (Me.map some)).next.nat=24:=by kernel_rfl
theorem aTv:aT ah 24 (patch (Me.map some) ark++apY.map some) aR3 aoc (bF asv (mkO ah (Me.map some)))=true:=by kernel_rfl
theorem aQN:aK ah 16 asD MO arv ap9 aon=true:=by kernel_rfl
theorem aPl:(mkO ah (MO.map some)).next.nat=22:=by kernel_rfl
theorem aTG:aT ah 22 (patch (MO.map some) arv++ap9.map some) aSe aon (bF asD (mkO ah (MO.map some)))=true:=by kernel_rfl
theorem aQ0:aK ah 10 ea27 Nj ec27 aqm aoA=true:=by kernel_rfl
theorem aPy:(mkO ah (Nj.map some)).next.nat=16:=by kernel_rfl
theorem aTT:aT ah 16 (patch (Nj.map some) ec27++aqm.map some) aSr aoA (dB ea27 (mkO ah (Nj.map some)))=true:=by kernel_rfl
theorem aRb:aK ah 8 asN Nz arG aqy aoL=true:=by kernel_rfl
theorem aPJ:(mkO ah (Nz.map some)).next.nat=14:=by kernel_rfl
theorem aT4:aT ah 14 (patch (Nz.map some) arG++aqy.map some) aSC aoL (dB asN (mkO ah (Nz.map some)))=true:=by kernel_rfl
theorem es1:aK ah 1 ea1 ek1 ec1 en1 er1=true:=by kernel_rfl
theorem ex1:(mkO ah (ek1.map some)).next.nat=7:=by kernel_rfl
theorem eh1:aT ah 7 (patch (ek1.map some) ec1++en1.map some) el1 er1 (dA ea1 (mkO ah (ek1.map some)))=true:=by kernel_rfl
theorem es12:aK ah 1 asR NG arK aqC aoP=true:=by kernel_rfl
theorem aPN:(mkO ah (NG.map some)).next.nat=7:=by kernel_rfl
theorem aT8:aT ah 7 (patch (NG.map some) arK++aqC.map some) aSG aoP (dA asR (mkO ah (NG.map some)))=true:=by kernel_rfl
end Go.Proofs.Jm
