/- Part of the claim: facts that its last text uses. No conditions. -/
import Derived.Test.YtfaolchpaooboaaGreatDoorJbABB
import Derived.KernelRfl
set_option linter.all false
noncomputable section
namespace Go.Proofs.Jm
open Go Go.Proofs Go.Vm
set_option maxRecDepth 100000
set_option maxHeartbeats 4000000
theorem aJC:aK ah 1 afH Az ae1 adQ acC=true:=by kernel_rfl
theorem aIu:(mkO ah (Az.map some)).next.nat=7:=by kernel_rfl
theorem aLT:aT ah 7 (patch (Az.map some) ae1++adQ.map some) aKK acC (dD afH (mkO ah (Az.map some)))=true:=by kernel_rfl
theorem aKk:aK ah 1 aga Cc afs aeB ado=true:=by kernel_rfl
theorem aJc:(mkO ah (Cc.map some)).next.nat=7:=by kernel_rfl
theorem aMB:aT ah 7 (patch (Cc.map some) afs++aeB.map some) aLt ado (dD aga (mkO ah (Cc.map some)))=true:=by kernel_rfl
theorem aKp:aK ah 30 agh CB afx aeG adt=true:=by kernel_rfl
theorem aJh:(mkO ah (CB.map some)).next.nat=36:=by kernel_rfl
theorem aMG:aT ah 36 (patch (CB.map some) afx++aeG.map some) aLy adt (bF agh (mkO ah (CB.map some)))=true:=by kernel_rfl
theorem aKm:aK ah 12 agc Ci afu aeD adq=true:=by kernel_rfl
theorem aJe:(mkO ah (Ci.map some)).next.nat=18:=by kernel_rfl
theorem aMD:aT ah 18 (patch (Ci.map some) afu++aeD.map some) aLv adq (bF agc (mkO ah (Ci.map some)))=true:=by kernel_rfl
theorem aJ5:aK ah 30 afT BH afd aek ac5=true:=by kernel_rfl
theorem aIX:(mkO ah (BH.map some)).next.nat=36:=by kernel_rfl
theorem aMm:aT ah 36 (patch (BH.map some) afd++aek.map some) aLe ac5 (dB afT (mkO ah (BH.map some)))=true:=by kernel_rfl
theorem aKr:aK ah 26 agj CJ afz aeI adv=true:=by kernel_rfl
theorem aJj:(mkO ah (CJ.map some)).next.nat=32:=by kernel_rfl
theorem aMI:aT ah 32 (patch (CJ.map some) afz++aeI.map some) aLA adv (dB agj (mkO ah (CJ.map some)))=true:=by kernel_rfl
theorem aJW:aK ah 1 afK Bj ae4 aeb acW=true:=by kernel_rfl
theorem aIO:(mkO ah (Bj.map some)).next.nat=7:=by kernel_rfl
theorem aMd:aT ah 7 (patch (Bj.map some) ae4++aeb.map some) aK5 acW (dA afK (mkO ah (Bj.map some)))=true:=by kernel_rfl
theorem aJ7:aK ah 1 afV BJ aff aem ac7=true:=by kernel_rfl
theorem aIZ:(mkO ah (BJ.map some)).next.nat=7:=by kernel_rfl
theorem aMo:aT ah 7 (patch (BJ.map some) aff++aem.map some) aLg ac7 (dA afV (mkO ah (BJ.map some)))=true:=by kernel_rfl
theorem aKf:aK ah 1 af5 BU afn aew adh=true:=by kernel_rfl
theorem aI7:(mkO ah (BU.map some)).next.nat=7:=by kernel_rfl
theorem aMw:aT ah 7 (patch (BU.map some) afn++aew.map some) aLo adh (dA af5 (mkO ah (BU.map some)))=true:=by kernel_rfl
theorem aP4:aK ah 20 arR KY aqJ apq anE=true:=by kernel_rfl
theorem aOC:(mkO ah (KY.map some)).next.nat=26:=by kernel_rfl
theorem aSX:aT ah 26 (patch (KY.map some) aqJ++apq.map some) aRv anE (dB arR (mkO ah (KY.map some)))=true:=by kernel_rfl
theorem aPQ:aK ah 26 ea99 KG ec99 apa ano=true:=by kernel_rfl
theorem aOo:(mkO ah (KG.map some)).next.nat=32:=by kernel_rfl
theorem aSJ:aT ah 32 (patch (KG.map some) ec99++apa.map some) aRh ano (dn ea99 (mkO ah (KG.map some)))=true:=by kernel_rfl
theorem aKh:aK ah 32 af7 BX afp aey adk=true:=by kernel_rfl
theorem aI9:(mkO ah (BX.map some)).next.nat=38:=by kernel_rfl
theorem aMy:aT ah 38 (patch (BX.map some) afp++aey.map some) aLq adk (bF af7 (mkO ah (BX.map some)))=true:=by kernel_rfl
theorem aPS:aK ah 1 ea97 KI ec97 apc anq=true:=by kernel_rfl
theorem aOq:(mkO ah (KI.map some)).next.nat=7:=by kernel_rfl
theorem aSL:aT ah 7 (patch (KI.map some) ec97++apc.map some) aRj anq (dA ea97 (mkO ah (KI.map some)))=true:=by kernel_rfl
theorem aQ2:aK ah 13 ea25 Nl ec25 aqo aoC=true:=by kernel_rfl
theorem aPA:(mkO ah (Nl.map some)).next.nat=19:=by kernel_rfl
theorem aTV:aT ah 19 (patch (Nl.map some) ec25++aqo.map some) aSt aoC (dn ea25 (mkO ah (Nl.map some)))=true:=by kernel_rfl
theorem aP3:aK ah 1 arQ KX aqI apo anD=true:=by kernel_rfl
theorem aOB:(mkO ah (KX.map some)).next.nat=7:=by kernel_rfl
theorem aSW:aT ah 7 (patch (KX.map some) aqI++apo.map some) aRu anD (dA arQ (mkO ah (KX.map some)))=true:=by kernel_rfl
theorem aQr:aK ah 20 asg LU aq6 apN an1=true:=by kernel_rfl
theorem aOZ:(mkO ah (LU.map some)).next.nat=26:=by kernel_rfl
theorem aTk:aT ah 26 (patch (LU.map some) aq6++apN.map some) aRS an1 (bF asg (mkO ah (LU.map some)))=true:=by kernel_rfl
theorem aQs:aK ah 1 ash LV aq7 apO an2=true:=by kernel_rfl
theorem aO0:(mkO ah (LV.map some)).next.nat=7:=by kernel_rfl
theorem aTl:aT ah 7 (patch (LV.map some) aq7++apO.map some) aRT an2 (dA ash (mkO ah (LV.map some)))=true:=by kernel_rfl
theorem aRe:aK ah 12 asQ NE arJ aqB aoO=true:=by kernel_rfl
theorem aPM:(mkO ah (NE.map some)).next.nat=18:=by kernel_rfl
theorem aT7:aT ah 18 (patch (NE.map some) arJ++aqB.map some) aSF aoO (bF asQ (mkO ah (NE.map some)))=true:=by kernel_rfl
theorem aQA:aK ah 1 ast Mc ari apW aoa=true:=by kernel_rfl
theorem aO8:(mkO ah (Mc.map some)).next.nat=7:=by kernel_rfl
theorem aTt:aT ah 7 (patch (Mc.map some) ari++apW.map some) aR1 aoa (dA ast (mkO ah (Mc.map some)))=true:=by kernel_rfl
theorem aRa:aK ah 1 asM Ny arF aqx aoK=true:=by kernel_rfl
theorem aPI:(mkO ah (Ny.map some)).next.nat=7:=by kernel_rfl
theorem aT3:aT ah 7 (patch (Ny.map some) arF++aqx.map some) aSB aoK (dA asM (mkO ah (Ny.map some)))=true:=by kernel_rfl
theorem aQ7:aK ah 1 asJ Nu arC aqu aoH=true:=by kernel_rfl
theorem aPF:(mkO ah (Nu.map some)).next.nat=7:=by kernel_rfl
theorem aT0:aT ah 7 (patch (Nu.map some) arC++aqu.map some) aSy aoH (dA asJ (mkO ah (Nu.map some)))=true:=by kernel_rfl
end Go.Proofs.Jm
