/- Part of the claim: facts that its last text uses. No conditions. -/
import Derived.Test.YtfaolchpaooboaaGreatDoorJbABB
import Derived.KernelRfl
set_option linter.all false
noncomputable section
namespace Go.Proofs.Jm
open Go Go.Proofs Go.Vm
set_option maxRecDepth 100000
set_option maxHeartbeats 4000000
theorem aKl:aK ah 31 agb Ce aft aeC adp=true:=by kernel_rfl
theorem aJd:(mkO ah (Ce.map some)).next.nat=37:=by kernel_rfl
theorem aMC:aT ah 37 (patch (Ce.map some) aft++aeC.map some) aLu adp (dn agb (mkO ah (Ce.map some)))=true:=by kernel_rfl
theorem aJH:aK ah 38 ea164 AP ec164 adV acH=true:=by kernel_rfl
theorem aIz:(mkO ah (AP.map some)).next.nat=44:=by kernel_rfl
theorem aLY:aT ah 44 (patch (AP.map some) ec164++adV.map some) aKP acH (bF ea164 (mkO ah (AP.map some)))=true:=by kernel_rfl
theorem aKH:aK ah 27 ea102 Dk ec102 aeY adL=true:=by kernel_rfl
theorem aJz:(mkO ah (Dk.map some)).next.nat=33:=by kernel_rfl
theorem aMY:aT ah 33 (patch (Dk.map some) ec102++aeY.map some) aLQ adL (dn ea102 (mkO ah (Dk.map some)))=true:=by kernel_rfl
theorem aKG:aK ah 1 ea103 Dj ec103 aeX adK=true:=by kernel_rfl
theorem aJy:(mkO ah (Dj.map some)).next.nat=7:=by kernel_rfl
theorem aMX:aT ah 7 (patch (Dj.map some) ec103++aeX.map some) aLP adK (dD ea103 (mkO ah (Dj.map some)))=true:=by kernel_rfl
theorem aP2:aK ah 24 arP KW aqH apn anC=true:=by kernel_rfl
theorem aOA:(mkO ah (KW.map some)).next.nat=30:=by kernel_rfl
theorem aSV:aT ah 30 (patch (KW.map some) aqH++apn.map some) aRt anC (bF arP (mkO ah (KW.map some)))=true:=by kernel_rfl
theorem aP8:aK ah 1 arV Ld aqN apu anI=true:=by kernel_rfl
theorem aOG:(mkO ah (Ld.map some)).next.nat=7:=by kernel_rfl
theorem aS1:aT ah 7 (patch (Ld.map some) aqN++apu.map some) aRz anI (dD arV (mkO ah (Ld.map some)))=true:=by kernel_rfl
theorem aJR:aK ah 36 ea154 Bc ec154 ad6 acR=true:=by kernel_rfl
theorem aIJ:(mkO ah (Bc.map some)).next.nat=42:=by kernel_rfl
theorem aL8:aT ah 42 (patch (Bc.map some) ec154++ad6.map some) aKZ acR (dn ea154 (mkO ah (Bc.map some)))=true:=by kernel_rfl
theorem aJ4:aK ah 1 afS BG afc aej ac4=true:=by kernel_rfl
theorem aIW:(mkO ah (BG.map some)).next.nat=7:=by kernel_rfl
theorem aMl:aT ah 7 (patch (BG.map some) afc++aej.map some) aLd ac4 (dA afS (mkO ah (BG.map some)))=true:=by kernel_rfl
theorem aQl:aK ah 12 ar9 LH aq0 apH anV=true:=by kernel_rfl
theorem aOT:(mkO ah (LH.map some)).next.nat=18:=by kernel_rfl
theorem aTe:aT ah 18 (patch (LH.map some) aq0++apH.map some) aRM anV (bF ar9 (mkO ah (LH.map some)))=true:=by kernel_rfl
theorem aKz:aK ah 28 agl CX afB aeQ adD=true:=by kernel_rfl
theorem aJr:(mkO ah (CX.map some)).next.nat=34:=by kernel_rfl
theorem aMQ:aT ah 34 (patch (CX.map some) afB++aeQ.map some) aLI adD (dn agl (mkO ah (CX.map some)))=true:=by kernel_rfl
theorem aJV:aK ah 36 ea150 Bh ec150 aea acV=true:=by kernel_rfl
theorem aIN:(mkO ah (Bh.map some)).next.nat=42:=by kernel_rfl
theorem aMc:aT ah 42 (patch (Bh.map some) ec150++aea.map some) aK4 acV (bF ea150 (mkO ah (Bh.map some)))=true:=by kernel_rfl
theorem aKn:aK ah 1 agd Cj afv aeE adr=true:=by kernel_rfl
theorem aJf:(mkO ah (Cj.map some)).next.nat=7:=by kernel_rfl
theorem aME:aT ah 7 (patch (Cj.map some) afv++aeE.map some) aLw adr (dD agd (mkO ah (Cj.map some)))=true:=by kernel_rfl
theorem aKD:aK ah 28 agq Dc afF aeU adH=true:=by kernel_rfl
theorem aJv:(mkO ah (Dc.map some)).next.nat=34:=by kernel_rfl
theorem aMU:aT ah 34 (patch (Dc.map some) afF++aeU.map some) aLM adH (bF agq (mkO ah (Dc.map some)))=true:=by kernel_rfl
theorem aQq:aK ah 16 asf LQ aq5 apM an0=true:=by kernel_rfl
theorem aOY:(mkO ah (LQ.map some)).next.nat=22:=by kernel_rfl
theorem aTj:aT ah 22 (patch (LQ.map some) aq5++apM.map some) aRR an0 (dB asf (mkO ah (LQ.map some)))=true:=by kernel_rfl
theorem aQE:aK ah 14 asx MC arn ap0 aoe=true:=by kernel_rfl
theorem aPc:(mkO ah (MC.map some)).next.nat=20:=by kernel_rfl
theorem aTx:aT ah 20 (patch (MC.map some) arn++ap0.map some) aR5 aoe (dB asx (mkO ah (MC.map some)))=true:=by kernel_rfl
theorem aQh:aK ah 1 ar5 Lu aqW apD anR=true:=by kernel_rfl
theorem aOP:(mkO ah (Lu.map some)).next.nat=7:=by kernel_rfl
theorem aTa:aT ah 7 (patch (Lu.map some) aqW++apD.map some) aRI anR (dA ar5 (mkO ah (Lu.map some)))=true:=by kernel_rfl
theorem aQ3:aK ah 12 ea24 Np ec24 aqp aoD=true:=by kernel_rfl
theorem aPB:(mkO ah (Np.map some)).next.nat=18:=by kernel_rfl
theorem aTW:aT ah 18 (patch (Np.map some) ec24++aqp.map some) aSu aoD (bF ea24 (mkO ah (Np.map some)))=true:=by kernel_rfl
theorem aQD:aK ah 1 asw MB arl apZ aod=true:=by kernel_rfl
theorem aPb:(mkO ah (MB.map some)).next.nat=7:=by kernel_rfl
theorem aTw:aT ah 7 (patch (MB.map some) arl++apZ.map some) aR4 aod (dA asw (mkO ah (MB.map some)))=true:=by kernel_rfl
theorem aQ4:aK ah 1 asG Nq arz aqr aoE=true:=by kernel_rfl
theorem aPC:(mkO ah (Nq.map some)).next.nat=7:=by kernel_rfl
theorem aTX:aT ah 7 (patch (Nq.map some) arz++aqr.map some) aSv aoE (dD asG (mkO ah (Nq.map some)))=true:=by kernel_rfl
theorem aQL:aK ah 1 ea42 ML ec42 ap7 aol=true:=by kernel_rfl
theorem aPj:(mkO ah (ML.map some)).next.nat=7:=by kernel_rfl
theorem aTE:aT ah 7 (patch (ML.map some) ec42++ap7.map some) aSc aol (dA ea42 (mkO ah (ML.map some)))=true:=by kernel_rfl
theorem es2:aK ah 2 ea2 ek2 ec2 en2 er2=true:=by kernel_rfl
theorem ex2:(mkO ah (ek2.map some)).next.nat=8:=by kernel_rfl
theorem eh2:aT ah 8 (patch (ek2.map some) ec2++en2.map some) el2 er2 (dn ea2 (mkO ah (ek2.map some)))=true:=by kernel_rfl
theorem aRf:aK ah 0 asT NH arL aqD aoQ=true:=by kernel_rfl
theorem aPO:(mkO ah (NH.map some)).next.nat=6:=by kernel_rfl
theorem aT9:aT ah 6 (patch (NH.map some) arL++aqD.map some) aSH aoQ (dB asT (mkO ah (NH.map some)))=true:=by kernel_rfl
end Go.Proofs.Jm
