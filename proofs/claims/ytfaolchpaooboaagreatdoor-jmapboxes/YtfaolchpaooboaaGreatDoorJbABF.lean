/- Part of the claim: facts that its last text uses. No conditions. -/
import Derived.Test.YtfaolchpaooboaaGreatDoorJbABB
import Derived.KernelRfl
set_option linter.all false
noncomputable section
namespace Go.Proofs.Jm
open Go Go.Proofs Go.Vm
set_option maxRecDepth 100000
set_option maxHeartbeats 4000000
theorem aJZ:aK ah 35 afN Bq ae7 aee acZ=true:=by kernel_rfl
theorem aIR:(mkO ah (Bq.map some)).next.nat=41:=by kernel_rfl
theorem aMg:aT ah 41 (patch (Bq.map some) ae7++aee.map some) aK8 acZ (dn afN (mkO ah (Bq.map some)))=true:=by kernel_rfl
theorem aJE:aK ah 12 ea167 AB ec167 adS acE=true:=by kernel_rfl
theorem aIw:(mkO ah (AB.map some)).next.nat=18:=by kernel_rfl
theorem aLV:aT ah 18 (patch (AB.map some) ec167++adS.map some) aKM acE (bF ea167 (mkO ah (AB.map some)))=true:=by kernel_rfl
theorem aJM:aK ah 34 ea159 AY ec159 ad1 acM=true:=by kernel_rfl
theorem aIE:(mkO ah (AY.map some)).next.nat=40:=by kernel_rfl
theorem aL3:aT ah 40 (patch (AY.map some) ec159++ad1.map some) aKU acM (dB ea159 (mkO ah (AY.map some)))=true:=by kernel_rfl
theorem aJU:aK ah 32 ea151 Bg ec151 ad9 acU=true:=by kernel_rfl
theorem aIM:(mkO ah (Bg.map some)).next.nat=38:=by kernel_rfl
theorem aMb:aT ah 38 (patch (Bg.map some) ec151++ad9.map some) aK3 acU (dB ea151 (mkO ah (Bg.map some)))=true:=by kernel_rfl
theorem aKx:aK ah 12 ea112 CV ec112 aeO adB=true:=by kernel_rfl
theorem aJp:(mkO ah (CV.map some)).next.nat=18:=by kernel_rfl
theorem aMO:aT ah 18 (patch (CV.map some) ec112++aeO.map some) aLG adB (bF ea112 (mkO ah (CV.map some)))=true:=by kernel_rfl
theorem aJI:aK ah 1 ea163 AQ ec163 adW acI=true:=by kernel_rfl
theorem aIA:(mkO ah (AQ.map some)).next.nat=7:=by kernel_rfl
theorem aLZ:aT ah 7 (patch (AQ.map some) ec163++adW.map some) aKQ acI (dA ea163 (mkO ah (AQ.map some)))=true:=by kernel_rfl
theorem aJT:aK ah 1 ea152 Bf ec152 ad8 acT=true:=by kernel_rfl
theorem aIL:(mkO ah (Bf.map some)).next.nat=7:=by kernel_rfl
theorem aMa:aT ah 7 (patch (Bf.map some) ec152++ad8.map some) aK2 acT (dA ea152 (mkO ah (Bf.map some)))=true:=by kernel_rfl
theorem aQu:aK ah 1 asj LX aq9 apQ an4=true:=by kernel_rfl
theorem aO2:(mkO ah (LX.map some)).next.nat=7:=by kernel_rfl
theorem aTn:aT ah 7 (patch (LX.map some) aq9++apQ.map some) aRV an4 (dD asj (mkO ah (LX.map some)))=true:=by kernel_rfl
theorem aPW:aK ah 22 ea93 KO ec93 apg anv=true:=by kernel_rfl
theorem aOu:(mkO ah (KO.map some)).next.nat=28:=by kernel_rfl
theorem aSP:aT ah 28 (patch (KO.map some) ec93++apg.map some) aRn anv (dB ea93 (mkO ah (KO.map some)))=true:=by kernel_rfl
theorem aJQ:aK ah 1 ea155 Ba ec155 ad5 acQ=true:=by kernel_rfl
theorem aII:(mkO ah (Ba.map some)).next.nat=7:=by kernel_rfl
theorem aL7:aT ah 7 (patch (Ba.map some) ec155++ad5.map some) aKY acQ (dD ea155 (mkO ah (Ba.map some)))=true:=by kernel_rfl
theorem aKc:aK ah 1 af0 BO afk aes ade=true:=by kernel_rfl
theorem aI4:(mkO ah (BO.map some)).next.nat=7:=by kernel_rfl
theorem aMt:aT ah 7 (patch (BO.map some) afk++aes.map some) aLl ade (dD af0 (mkO ah (BO.map some)))=true:=by kernel_rfl
theorem aKE:aK ah 1 agr Dh afG aeV adI=true:=by kernel_rfl
theorem aJw:(mkO ah (Dh.map some)).next.nat=7:=by kernel_rfl
theorem aMV:aT ah 7 (patch (Dh.map some) afG++aeV.map some) aLN adI (dA agr (mkO ah (Dh.map some)))=true:=by kernel_rfl
theorem aQc:aK ah 22 arZ Ll aqR apy anM=true:=by kernel_rfl
theorem aOK:(mkO ah (Ll.map some)).next.nat=28:=by kernel_rfl
theorem aS5:aT ah 28 (patch (Ll.map some) aqR++apy.map some) aRD anM (dn arZ (mkO ah (Ll.map some)))=true:=by kernel_rfl
theorem aQ6:aK ah 12 asI Ns arB aqt aoG=true:=by kernel_rfl
theorem aPE:(mkO ah (Ns.map some)).next.nat=18:=by kernel_rfl
theorem aTZ:aT ah 18 (patch (Ns.map some) arB++aqt.map some) aSx aoG (bF asI (mkO ah (Ns.map some)))=true:=by kernel_rfl
theorem aP0:aK ah 1 arN KT aqF apl anA=true:=by kernel_rfl
theorem aOy:(mkO ah (KT.map some)).next.nat=7:=by kernel_rfl
theorem aST:aT ah 7 (patch (KT.map some) aqF++apl.map some) aRr anA (dD arN (mkO ah (KT.map some)))=true:=by kernel_rfl
theorem aQm:aK ah 1 asa LJ aq1 apI anW=true:=by kernel_rfl
theorem aOU:(mkO ah (LJ.map some)).next.nat=7:=by kernel_rfl
theorem aTf:aT ah 7 (patch (LJ.map some) aq1++apI.map some) aRN anW (dD asa (mkO ah (LJ.map some)))=true:=by kernel_rfl
theorem aQp:aK ah 1 ase LP aq4 apL anZ=true:=by kernel_rfl
theorem aOX:(mkO ah (LP.map some)).next.nat=7:=by kernel_rfl
theorem aTi:aT ah 7 (patch (LP.map some) aq4++apL.map some) aRQ anZ (dA ase (mkO ah (LP.map some)))=true:=by kernel_rfl
theorem aRc:aK ah 1 asO NC arH aqz aoM=true:=by kernel_rfl
theorem aPK:(mkO ah (NC.map some)).next.nat=7:=by kernel_rfl
theorem aT5:aT ah 7 (patch (NC.map some) arH++aqz.map some) aSD aoM (dD asO (mkO ah (NC.map some)))=true:=by kernel_rfl
theorem aQY:aK ah 14 ea29 Nc ec29 aqk aoy=true:=by kernel_rfl
theorem aPw:(mkO ah (Nc.map some)).next.nat=20:=by kernel_rfl
theorem aTR:aT ah 20 (patch (Nc.map some) ec29++aqk.map some) aSp aoy (bF ea29 (mkO ah (Nc.map some)))=true:=by kernel_rfl
theorem aQW:aK ah 1 ea31 Na ec31 aqi aow=true:=by kernel_rfl
theorem aPu:(mkO ah (Na.map some)).next.nat=7:=by kernel_rfl
theorem aTP:aT ah 7 (patch (Na.map some) ec31++aqi.map some) aSn aow (dA ea31 (mkO ah (Na.map some)))=true:=by kernel_rfl
theorem es6:aK ah 6 ea6 ek6 ec6 en6 er6=true:=by kernel_rfl
theorem ex6:(mkO ah (ek6.map some)).next.nat=12:=by kernel_rfl
theorem eh6:aT ah 12 (patch (ek6.map some) ec6++en6.map some) el6 er6 (dB ea6 (mkO ah (ek6.map some)))=true:=by kernel_rfl
end Go.Proofs.Jm
