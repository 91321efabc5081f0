/- Part of the claim: facts that its last text uses. No conditions. -/
import Derived.Test.YtfaolchpaooboaaGreatDoorJbABB
import Derived.KernelRfl
set_option linter.all false
noncomputable section
namespace Go.Proofs.Jm
open Go Go.Proofs Go.Vm
set_option maxRecDepth 100000
set_option maxHeartbeats 4000000
theorem aJO:aK ah 37 ea157 A7 ec157 ad3 acO=true:=by kernel_rfl
theorem aIG:(mkO ah (A7.map some)).next.nat=43:=by kernel_rfl
theorem aL5:aT ah 43 (patch (A7.map some) ec157++ad3.map some) aKW acO (dn ea157 (mkO ah (A7.map some)))=true:=by kernel_rfl
theorem aJ3:aK ah 34 afR BF afb aei ac3=true:=by kernel_rfl
theorem aIV:(mkO ah (BF.map some)).next.nat=40:=by kernel_rfl
theorem aMk:aT ah 40 (patch (BF.map some) afb++aei.map some) aLc ac3 (bF afR (mkO ah (BF.map some)))=true:=by kernel_rfl
theorem aJJ:aK ah 34 ea162 AU ec162 adX acJ=true:=by kernel_rfl
theorem aIB:(mkO ah (AU.map some)).next.nat=40:=by kernel_rfl
theorem aL0:aT ah 40 (patch (AU.map some) ec162++adX.map some) aKR acJ (dB ea162 (mkO ah (AU.map some)))=true:=by kernel_rfl
theorem aP9:aK ah 23 arW Le aqO apv anJ=true:=by kernel_rfl
theorem aOH:(mkO ah (Le.map some)).next.nat=29:=by kernel_rfl
theorem aS2:aT ah 29 (patch (Le.map some) aqO++apv.map some) aRA anJ (dn arW (mkO ah (Le.map some)))=true:=by kernel_rfl
theorem aKg:aK ah 28 af6 BV afo aex adi=true:=by kernel_rfl
theorem aI8:(mkO ah (BV.map some)).next.nat=34:=by kernel_rfl
theorem aMx:aT ah 34 (patch (BV.map some) afo++aex.map some) aLp adi (dB af6 (mkO ah (BV.map some)))=true:=by kernel_rfl
theorem aJL:aK ah 1 ea160 AX ec160 adZ acL=true:=by kernel_rfl
theorem aID:(mkO ah (AX.map some)).next.nat=7:=by kernel_rfl
theorem aL2:aT ah 7 (patch (AX.map some) ec160++adZ.map some) aKT acL (dA ea160 (mkO ah (AX.map some)))=true:=by kernel_rfl
theorem aPZ:aK ah 12 ea90 KR ec90 apk anz=true:=by kernel_rfl
theorem aOx:(mkO ah (KR.map some)).next.nat=18:=by kernel_rfl
theorem aSS:aT ah 18 (patch (KR.map some) ec90++apk.map some) aRq anz (bF ea90 (mkO ah (KR.map some)))=true:=by kernel_rfl
theorem aKd:aK ah 32 af2 BQ afl aeu adf=true:=by kernel_rfl
theorem aI5:(mkO ah (BQ.map some)).next.nat=38:=by kernel_rfl
theorem aMu:aT ah 38 (patch (BQ.map some) afl++aeu.map some) aLm adf (dn af2 (mkO ah (BQ.map some)))=true:=by kernel_rfl
theorem aQG:aK ah 17 asz MG arp ap2 aog=true:=by kernel_rfl
theorem aPe:(mkO ah (MG.map some)).next.nat=23:=by kernel_rfl
theorem aTz:aT ah 23 (patch (MG.map some) arp++ap2.map some) aR7 aog (dn asz (mkO ah (MG.map some)))=true:=by kernel_rfl
theorem aJK:aK ah 38 ea161 AV ec161 adY acK=true:=by kernel_rfl
theorem aIC:(mkO ah (AV.map some)).next.nat=44:=by kernel_rfl
theorem aL1:aT ah 44 (patch (AV.map some) ec161++adY.map some) aKS acK (bF ea161 (mkO ah (AV.map some)))=true:=by kernel_rfl
theorem aQR:aK ah 15 asF MS arx aqd aor=true:=by kernel_rfl
theorem aPp:(mkO ah (MS.map some)).next.nat=21:=by kernel_rfl
theorem aTK:aT ah 21 (patch (MS.map some) arx++aqd.map some) aSi aor (dn asF (mkO ah (MS.map some)))=true:=by kernel_rfl
theorem aKB:aK ah 1 agn CZ afD aeS adF=true:=by kernel_rfl
theorem aJt:(mkO ah (CZ.map some)).next.nat=7:=by kernel_rfl
theorem aMS:aT ah 7 (patch (CZ.map some) afD++aeS.map some) aLK adF (dA agn (mkO ah (CZ.map some)))=true:=by kernel_rfl
theorem aQQ:aK ah 1 asE MR arw aqc aoq=true:=by kernel_rfl
theorem aPo:(mkO ah (MR.map some)).next.nat=7:=by kernel_rfl
theorem aTJ:aT ah 7 (patch (MR.map some) arw++aqc.map some) aSh aoq (dD asE (mkO ah (MR.map some)))=true:=by kernel_rfl
theorem aQt:aK ah 16 asi LW aq8 apP an3=true:=by kernel_rfl
theorem aO1:(mkO ah (LW.map some)).next.nat=22:=by kernel_rfl
theorem aTm:aT ah 22 (patch (LW.map some) aq8++apP.map some) aRU an3 (dB asi (mkO ah (LW.map some)))=true:=by kernel_rfl
theorem aQb:aK ah 1 arY Lj aqQ apx anL=true:=by kernel_rfl
theorem aOJ:(mkO ah (Lj.map some)).next.nat=7:=by kernel_rfl
theorem aS4:aT ah 7 (patch (Lj.map some) aqQ++apx.map some) aRC anL (dD arY (mkO ah (Lj.map some)))=true:=by kernel_rfl
theorem aQe:aK ah 1 ar1 Lp aqT apA anO=true:=by kernel_rfl
theorem aOM:(mkO ah (Lp.map some)).next.nat=7:=by kernel_rfl
theorem aS7:aT ah 7 (patch (Lp.map some) aqT++apA.map some) aRF anO (dA ar1 (mkO ah (Lp.map some)))=true:=by kernel_rfl
theorem aQU:aK ah 14 ea33 MX ec33 aqg aou=true:=by kernel_rfl
theorem aPs:(mkO ah (MX.map some)).next.nat=20:=by kernel_rfl
theorem aTN:aT ah 20 (patch (MX.map some) ec33++aqg.map some) aSl aou (dn ea33 (mkO ah (MX.map some)))=true:=by kernel_rfl
theorem aQ5:aK ah 12 asH Nr arA aqs aoF=true:=by kernel_rfl
theorem aPD:(mkO ah (Nr.map some)).next.nat=18:=by kernel_rfl
theorem aTY:aT ah 18 (patch (Nr.map some) arA++aqs.map some) aSw aoF (dn asH (mkO ah (Nr.map some)))=true:=by kernel_rfl
theorem aQX:aK ah 10 ea30 Nb ec30 aqj aox=true:=by kernel_rfl
theorem aPv:(mkO ah (Nb.map some)).next.nat=16:=by kernel_rfl
theorem aTQ:aT ah 16 (patch (Nb.map some) ec30++aqj.map some) aSo aox (dB ea30 (mkO ah (Nb.map some)))=true:=by kernel_rfl
theorem aQZ:aK ah 1 ea28 Nh ec28 aql aoz=true:=by kernel_rfl
theorem aPx:(mkO ah (Nh.map some)).next.nat=7:=by kernel_rfl
theorem aTS:aT ah 7 (patch (Nh.map some) ec28++aql.map some) aSq aoz (dA ea28 (mkO ah (Nh.map some)))=true:=by kernel_rfl
theorem es0:aK ah 6 ea0 ek0 ec0 en0 er0=true:=by kernel_rfl
theorem ex0:(mkO ah (ek0.map some)).next.nat=12:=by kernel_rfl
theorem eh0:aT ah 12 (patch (ek0.map some) ec0++en0.map some) el0 er0 (dB ea0 (mkO ah (ek0.map some)))=true:=by kernel_rfl
end Go.Proofs.Jm
