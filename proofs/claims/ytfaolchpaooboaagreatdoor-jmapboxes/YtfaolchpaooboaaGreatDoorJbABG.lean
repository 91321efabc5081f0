/- Part of the claim: facts that its last text uses. No conditions. -/
import Derived.Test.YtfaolchpaooboaaGreatDoorJbABB
import Derived.KernelRfl
set_option linter.all false
noncomputable section
namespace Go.Proofs.Jm
open Go Go.Proofs Go.Vm
set_option maxRecDepth 100000
set_option maxHeartbeats 4000000
theorem aJN:aK ah 1 ea158 AZ ec158 ad2 acN=true:=by kernel_rfl
theorem aIF:(mkO ah (AZ.map some)).next.nat=7:=by kernel_rfl
theorem aL4:aT ah 7 (patch (AZ.map some) ec158++ad2.map some) aKV acN (dD ea158 (mkO ah (AZ.map some)))=true:=by kernel_rfl
theorem aKw:aK ah 29 ea113 CU ec113 aeN adA=true:=by kernel_rfl
theorem aJo:(mkO ah (CU.map some)).next.nat=35:=by kernel_rfl
theorem aMN:aT ah 35 (patch (CU.map some) ec113++aeN.map some) aLF adA (dn ea113 (mkO ah (CU.map some)))=true:=by kernel_rfl
theorem aJ0:aK ah 12 afO Bz ae8 aef ac0=true:=by kernel_rfl
theorem aIS:(mkO ah (Bz.map some)).next.nat=18:=by kernel_rfl
theorem aMh:aT ah 18 (patch (Bz.map some) ae8++aef.map some) aK9 ac0 (bF afO (mkO ah (Bz.map some)))=true:=by kernel_rfl
theorem aJX:aK ah 32 afL Bl ae5 aec acX=true:=by kernel_rfl
theorem aIP:(mkO ah (Bl.map some)).next.nat=38:=by kernel_rfl
theorem aMe:aT ah 38 (patch (Bl.map some) ae5++aec.map some) aK6 acX (dB afL (mkO ah (Bl.map some)))=true:=by kernel_rfl
theorem aPR:aK ah 26 ea98 KH ec98 apb anp=true:=by kernel_rfl
theorem aOp:(mkO ah (KH.map some)).next.nat=32:=by kernel_rfl
theorem aSK:aT ah 32 (patch (KH.map some) ec98++apb.map some) aRi anp (bF ea98 (mkO ah (KH.map some)))=true:=by kernel_rfl
theorem aKu:aK ah 26 ea115 CQ ec115 aeL ady=true:=by kernel_rfl
theorem aJm:(mkO ah (CQ.map some)).next.nat=32:=by kernel_rfl
theorem aML:aT ah 32 (patch (CQ.map some) ec115++aeL.map some) aLD ady (dB ea115 (mkO ah (CQ.map some)))=true:=by kernel_rfl
theorem aQj:aK ah 1 ar7 LD aqY apF anT=true:=by kernel_rfl
theorem aOR:(mkO ah (LD.map some)).next.nat=7:=by kernel_rfl
theorem aTc:aT ah 7 (patch (LD.map some) aqY++apF.map some) aRK anT (dD ar7 (mkO ah (LD.map some)))=true:=by kernel_rfl
theorem aJ2:aK ah 34 afQ BB afa aeh ac2=true:=by kernel_rfl
theorem aIU:(mkO ah (BB.map some)).next.nat=40:=by kernel_rfl
theorem aMj:aT ah 40 (patch (BB.map some) afa++aeh.map some) aLb ac2 (dn afQ (mkO ah (BB.map some)))=true:=by kernel_rfl
theorem aJF:aK ah 1 afI AL ae2 adT acF=true:=by kernel_rfl
theorem aIx:(mkO ah (AL.map some)).next.nat=7:=by kernel_rfl
theorem aLW:aT ah 7 (patch (AL.map some) ae2++adT.map some) aKN acF (dD afI (mkO ah (AL.map some)))=true:=by kernel_rfl
theorem aQK:aK ah 16 ea43 MK ec43 ap6 aok=true:=by kernel_rfl
theorem aPi:(mkO ah (MK.map some)).next.nat=22:=by kernel_rfl
theorem aTD:aT ah 22 (patch (MK.map some) ec43++ap6.map some) aSb aok (bF ea43 (mkO ah (MK.map some)))=true:=by kernel_rfl
theorem aQF:aK ah 1 asy MF aro ap1 aof=true:=by kernel_rfl
theorem aPd:(mkO ah (MF.map some)).next.nat=7:=by kernel_rfl
theorem aTy:aT ah 7 (patch (MF.map some) aro++ap1.map some) aR6 aof (dD asy (mkO ah (MF.map some)))=true:=by kernel_rfl
theorem aP1:aK ah 24 arO KU aqG apm anB=true:=by kernel_rfl
theorem aOz:(mkO ah (KU.map some)).next.nat=30:=by kernel_rfl
theorem aSU:aT ah 30 (patch (KU.map some) aqG++apm.map some) aRs anB (dn arO (mkO ah (KU.map some)))=true:=by kernel_rfl
theorem aPV:aK ah 1 ea94 KN ec94 apf anu=true:=by kernel_rfl
theorem aOt:(mkO ah (KN.map some)).next.nat=7:=by kernel_rfl
theorem aSO:aT ah 7 (patch (KN.map some) ec94++apf.map some) aRm anu (dA ea94 (mkO ah (KN.map some)))=true:=by kernel_rfl
theorem aKJ:aK ah 1 ea100 Dn ec100 ae0 adN=true:=by kernel_rfl
theorem aJB:(mkO ah (Dn.map some)).next.nat=7:=by kernel_rfl
theorem aM0:aT ah 7 (patch (Dn.map some) ec100++ae0.map some) aLS adN (dD ea100 (mkO ah (Dn.map some)))=true:=by kernel_rfl
theorem aQB:aK ah 14 asu Md arj apX aob=true:=by kernel_rfl
theorem aO9:(mkO ah (Md.map some)).next.nat=20:=by kernel_rfl
theorem aTu:aT ah 20 (patch (Md.map some) arj++apX.map some) aR2 aob (dB asu (mkO ah (Md.map some)))=true:=by kernel_rfl
theorem aQg:aK ah 22 ar4 Ls aqV apC anQ=true:=by kernel_rfl
theorem aOO:(mkO ah (Ls.map some)).next.nat=28:=by kernel_rfl
theorem aS9:aT ah 28 (patch (Ls.map some) aqV++apC.map some) aRH anQ (bF ar4 (mkO ah (Ls.map some)))=true:=by kernel_rfl
theorem aRd:aK ah 11 asP ND arI aqA aoN=true:=by kernel_rfl
theorem aPL:(mkO ah (ND.map some)).next.nat=17:=by kernel_rfl
theorem aT6:aT ah 17 (patch (ND.map some) arI++aqA.map some) aSE aoN (dn asP (mkO ah (ND.map some)))=true:=by kernel_rfl
theorem aQM:aK ah 12 asC MN aru ap8 aom=true:=by kernel_rfl
theorem aPk:(mkO ah (MN.map some)).next.nat=18:=by kernel_rfl
theorem aTF:aT ah 18 (patch (MN.map some) aru++ap8.map some) aSd aom (dB asC (mkO ah (MN.map some)))=true:=by kernel_rfl
theorem aQO:aK ah 1 ea39 MP ec39 aqa aoo=true:=by kernel_rfl
theorem aPm:(mkO ah (MP.map some)).next.nat=7:=by kernel_rfl
theorem aTH:aT ah 7 (patch (MP.map some) ec39++aqa.map some) aSf aoo (dA ea39 (mkO ah (MP.map some)))=true:=by kernel_rfl
theorem aRg:aK ah 1 ea10 NI arM aqE aoR=true:=by kernel_rfl
theorem aPP:(mkO ah (NI.map some)).next.nat=7:=by kernel_rfl
theorem aUa:aT ah 7 (patch (NI.map some) arM++aqE.map some) aSI aoR (dD ea10 (mkO ah (NI.map some)))=true:=by kernel_rfl
theorem es5:aK ah 1 ea5 ek5 ec5 en5 er5=true:=by kernel_rfl
theorem ex5:(mkO ah (ek5.map some)).next.nat=7:=by kernel_rfl
theorem eh5:aT ah 7 (patch (ek5.map some) ec5++en5.map some) el5 er5 (dD ea5 (mkO ah (ek5.map some)))=true:=by kernel_rfl
end Go.Proofs.Jm
