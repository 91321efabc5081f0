/- Part of the claim: facts that its last text uses. No conditions. -/
import Derived.Test.YtfaolchpaooboaaGreatDoorJbABK
import Derived.KernelRfl
set_option linter.all false
noncomputable section
namespace Go.Proofs.Jm
open Go Go.Proofs Go.Vm
set_option maxRecDepth 100000
set_option maxHeartbeats 4000000
theorem ayP:bT (bI ahc acz) acz auG 87 avo aNM=true:=by kernel_rfl
theorem ayA:bT (bI agX acf) acf auq 120 au9 aNx=true:=by kernel_rfl
theorem ayz:bT (bI agW ace) ace aup 158 au8 aNw=true:=by kernel_rfl
theorem ayL:bT (bI ag8 acu) acu auC 207 avk aNI=true:=by kernel_rfl
theorem ays:bT (bI agP ab4) ab4 aui 224 au1 aNp=true:=by kernel_rfl
theorem ayr:bT (bI agO ab3) ab3 auh 270 au0 aNo=true:=by kernel_rfl
theorem ayH:bT (bI ag4 aco) aco auy 327 avg aNE=true:=by kernel_rfl
theorem ao3:bT (bI Us Kt) Kt aho 329 ajI aHn=true:=by kernel_rfl
theorem ao2:bT (bI Ur Kr) Kr ahn 385 ajH aHm=true:=by kernel_rfl
theorem ao7:bT (bI Ux Ky) Ky ahs 452 ajM aHr=true:=by kernel_rfl
theorem aoV:bT (bI Ui J5) J5 ahg 441 ajA aHf=true:=by kernel_rfl
end Go.Proofs.Jm
noncomputable section
namespace Go.Proofs.Jm
open Go Go.Proofs Go.Vm
set_option maxRecDepth 100000
set_option maxHeartbeats 4000000
theorem ayC:bT (bI agZ ach) ach aus 94 avb aNz=true:=by kernel_rfl
theorem ayB:bT (bI agY acg) acg aur 130 ava aNy=true:=by kernel_rfl
theorem ayM:bT (bI ag9 acv) acv auD 177 avl aNJ=true:=by kernel_rfl
theorem ayu:bT (bI agR ab6) ab6 auk 198 au3 aNr=true:=by kernel_rfl
theorem ayt:bT (bI agQ ab5) ab5 auj 242 au2 aNq=true:=by kernel_rfl
theorem ayI:bT (bI ag5 acp) acp auz 297 avh aNF=true:=by kernel_rfl
theorem aym:bT (bI agJ abX) abX auc 302 auV aNj=true:=by kernel_rfl
theorem ao4:bT (bI Ut Ku) Ku ahp 355 ajJ aHo=true:=by kernel_rfl
theorem ao8:bT (bI Uy Kz) Kz aht 420 ajN aHs=true:=by kernel_rfl
theorem aoX:bT (bI Uk J7) J7 ahi 413 ajC aHh=true:=by kernel_rfl
theorem aoW:bT (bI Uj J6) J6 ahh 475 ajB aHg=true:=by kernel_rfl
end Go.Proofs.Jm
