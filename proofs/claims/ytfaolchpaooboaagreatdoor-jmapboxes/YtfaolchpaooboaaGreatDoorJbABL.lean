/- Part of the claim: facts that its last text uses. No conditions. -/
import Derived.Test.YtfaolchpaooboaaGreatDoorJbABK
import Derived.KernelRfl
set_option linter.all false
noncomputable section
namespace Go.Proofs.Jm
open Go Go.Proofs Go.Vm
set_option maxRecDepth 100000
set_option maxHeartbeats 4000000
theorem ayE:bT (bI ag1 acj) acj auu 68 avd aNB=true:=by kernel_rfl
theorem ayD:bT (bI ag0 aci) aci aut 102 avc aNA=true:=by kernel_rfl
theorem ayN:bT (bI aha acw) acw auE 147 avm aNK=true:=by kernel_rfl
theorem ayw:bT (bI agT ab8) ab8 aum 172 au5 aNt=true:=by kernel_rfl
theorem ayv:bT (bI agS ab7) ab7 aul 214 au4 aNs=true:=by kernel_rfl
theorem ayJ:bT (bI ag6 acr) acr auA 267 avi aNG=true:=by kernel_rfl
theorem ayo:bT (bI agL abZ) abZ aue 276 auX aNl=true:=by kernel_rfl
theorem ayn:bT (bI agK abY) abY aud 326 auW aNk=true:=by kernel_rfl
theorem ao9:bT (bI Uz KA) KA ahu 388 ajO aHt=true:=by kernel_rfl
theorem aoZ:bT (bI Um J9) J9 ahk 385 ajE aHj=true:=by kernel_rfl
theorem aoY:bT (bI Ul J8) J8 ahj 445 ajD aHi=true:=by kernel_rfl
theorem ao5:bT (bI Uu Kv) Kv ahq 516 ajK aHp=true:=by kernel_rfl
end Go.Proofs.Jm
noncomputable section
namespace Go.Proofs.Jm
open Go Go.Proofs Go.Vm
set_option maxRecDepth 100000
set_option maxHeartbeats 4000000
theorem ayF:bT (bI ag2 ack) ack auv 74 ave aNC=true:=by kernel_rfl
theorem ayO:bT (bI ahb acy) acy auF 117 avn aNL=true:=by kernel_rfl
theorem ayy:bT (bI agV acd) acd auo 146 au7 aNv=true:=by kernel_rfl
theorem ayx:bT (bI agU ab9) ab9 aun 186 au6 aNu=true:=by kernel_rfl
theorem ayK:bT (bI ag7 acs) acs auB 237 avj aNH=true:=by kernel_rfl
theorem ayq:bT (bI agN ab2) ab2 aug 250 auZ aNn=true:=by kernel_rfl
theorem ayp:bT (bI agM ab1) ab1 auf 298 auY aNm=true:=by kernel_rfl
theorem ayG:bT (bI ag3 acn) acn auw 357 avf aND=true:=by kernel_rfl
theorem ao1:bT (bI Uo Kq) Kq ahm 357 ajG aHl=true:=by kernel_rfl
theorem ao0:bT (bI Un Ko) Ko ahl 415 ajF aHk=true:=by kernel_rfl
theorem ao6:bT (bI Uw Kw) Kw ahr 484 ajL aHq=true:=by kernel_rfl
end Go.Proofs.Jm
