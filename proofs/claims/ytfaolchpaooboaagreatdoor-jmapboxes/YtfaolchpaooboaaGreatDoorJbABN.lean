/- Part of the claim: facts that its last text uses. No conditions. -/
import Derived.Test.YtfaolchpaooboaaGreatDoorJbABL
import Derived.Test.YtfaolchpaooboaaGreatDoorJbABM
import Derived.KernelRfl
set_option linter.all false
noncomputable section
namespace Go.Proofs.Jm
open Go Go.Proofs Go.Vm
set_option maxRecDepth 100000
set_option maxHeartbeats 4000000
def auS:Fun:=agG
theorem amZ:aj Tryz.prog ah 7 auS:=avz
def auR:Fun:=bV auS ag1 acj auu 68 avd
theorem amY:aj Tryz.prog ah 7 auR:=bg amZ bJ ayE
def auQ:Fun:=bV auR ag2 ack auv 74 ave
theorem amX:aj Tryz.prog ah 7 auQ:=bg amY bJ ayF
def auP:Fun:=bV auQ ahc acz auG 87 avo
theorem amW:aj Tryz.prog ah 7 auP:=bg amX bJ ayP
def auO:Fun:=bV auP agZ ach aus 94 avb
theorem amV:aj Tryz.prog ah 7 auO:=bg amW bJ ayC
def auN:Fun:=bV auO ag0 aci aut 102 avc
theorem amU:aj Tryz.prog ah 7 auN:=bg amV bJ ayD
def auM:Fun:=bV auN ahb acy auF 117 avn
theorem amT:aj Tryz.prog ah 7 auM:=bg amU bJ ayO
def auL:Fun:=bV auM agX acf auq 120 au9
theorem amS:aj Tryz.prog ah 7 auL:=bg amT bJ ayA
def auK:Fun:=bV auL agY acg aur 130 ava
theorem amR:aj Tryz.prog ah 7 auK:=bg amS bJ ayB
def auJ:Fun:=bV auK aha acw auE 147 avm
theorem amQ:aj Tryz.prog ah 7 auJ:=bg amR bJ ayN
def aiL:Fun:=bV auJ agV acd auo 146 au7
theorem aiK:aj Tryz.prog ah 7 aiL:=bg amQ bJ ayy
def aiJ:Fun:=bV aiL agW ace aup 158 au8
theorem aiI:aj Tryz.prog ah 7 aiJ:=bg aiK bJ ayz
def aiH:Fun:=bV aiJ ag9 acv auD 177 avl
theorem aiG:aj Tryz.prog ah 7 aiH:=bg aiI bJ ayM
def aiF:Fun:=bV aiH agT ab8 aum 172 au5
theorem aiE:aj Tryz.prog ah 7 aiF:=bg aiG bJ ayw
def aiD:Fun:=bV aiF agU ab9 aun 186 au6
theorem aiC:aj Tryz.prog ah 7 aiD:=bg aiE bJ ayx
def aiB:Fun:=bV aiD ag8 acu auC 207 avk
theorem aiA:aj Tryz.prog ah 7 aiB:=bg aiC bJ ayL
def aiz:Fun:=bV aiB agR ab6 auk 198 au3
theorem aiy:aj Tryz.prog ah 7 aiz:=bg aiA bJ ayu
def aix:Fun:=bV aiz agS ab7 aul 214 au4
theorem aiw:aj Tryz.prog ah 7 aix:=bg aiy bJ ayv
def aiv:Fun:=bV aix ag7 acs auB 237 avj
theorem aiu:aj Tryz.prog ah 7 aiv:=bg aiw bJ ayK
def ait:Fun:=bV aiv agP ab4 aui 224 au1
theorem ais:aj Tryz.prog ah 7 ait:=bg aiu bJ ays
def air:Fun:=bV ait agQ ab5 auj 242 au2
theorem aiq:aj Tryz.prog ah 7 air:=bg ais bJ ayt
def aip:Fun:=bV air ag6 acr auA 267 avi
theorem aio:aj Tryz.prog ah 7 aip:=bg aiq bJ ayJ
def ain:Fun:=bV aip agN ab2 aug 250 auZ
theorem aim:aj Tryz.prog ah 7 ain:=bg aio bJ ayq
def ail:Fun:=bV ain agO ab3 auh 270 au0
theorem aik:aj Tryz.prog ah 7 ail:=bg aim bJ ayr
def aij:Fun:=bV ail ag5 acp auz 297 avh
theorem aii:aj Tryz.prog ah 7 aij:=bg aik bJ ayI
def aif:Fun:=bV aij agL abZ aue 276 auX
theorem aie:aj Tryz.prog ah 7 aif:=bg aii bJ ayo
def aid:Fun:=bV aif agM ab1 auf 298 auY
theorem aic:aj Tryz.prog ah 7 aid:=bg aie bJ ayp
def aib:Fun:=bV aid ag4 aco auy 327 avg
theorem aia:aj Tryz.prog ah 7 aib:=bg aic bJ ayH
def ah9:Fun:=bV aib agJ abX auc 302 auV
theorem ah8:aj Tryz.prog ah 7 ah9:=bg aia bJ aym
def ah7:Fun:=bV ah9 agK abY aud 326 auW
theorem ah6:aj Tryz.prog ah 7 ah7:=bg ah8 bJ ayn
def ah5:Fun:=bV ah7 ag3 acn auw 357 avf
theorem ah4:aj Tryz.prog ah 7 ah5:=bg ah6 bJ ayG
def ah3:Fun:=bV ah5 Us Kt aho 329 ajI
theorem ah2:aj Tryz.prog ah 7 ah3:=bg ah4 bJ ao3
def ah1:Fun:=bV ah3 Ut Ku ahp 355 ajJ
theorem ah0:aj Tryz.prog ah 7 ah1:=bg ah2 bJ ao4
def ahZ:Fun:=bV ah1 Uz KA ahu 388 ajO
theorem ahY:aj Tryz.prog ah 7 ahZ:=bg ah0 bJ ao9
def ahX:Fun:=bV ahZ Uo Kq ahm 357 ajG
theorem ahW:aj Tryz.prog ah 7 ahX:=bg ahY bJ ao1
def ahV:Fun:=bV ahX Ur Kr ahn 385 ajH
theorem ahU:aj Tryz.prog ah 7 ahV:=bg ahW bJ ao2
def ahT:Fun:=bV ahV Uy Kz aht 420 ajN
theorem ahS:aj Tryz.prog ah 7 ahT:=bg ahU bJ ao8
def ahR:Fun:=bV ahT Um J9 ahk 385 ajE
theorem ahQ:aj Tryz.prog ah 7 ahR:=bg ahS bJ aoZ
def ahP:Fun:=bV ahR Un Ko ahl 415 ajF
theorem ahO:aj Tryz.prog ah 7 ahP:=bg ahQ bJ ao0
def ahN:Fun:=bV ahP Ux Ky ahs 452 ajM
theorem ahM:aj Tryz.prog ah 7 ahN:=bg ahO bJ ao7
def ahL:Fun:=bV ahN Uk J7 ahi 413 ajC
theorem ahK:aj Tryz.prog ah 7 ahL:=bg ahM bJ aoX
def ahJ:Fun:=bV ahL Ul J8 ahj 445 ajD
theorem ahI:aj Tryz.prog ah 7 ahJ:=bg ahK bJ aoY
def ahH:Fun:=bV ahJ Uw Kw ahr 484 ajL
theorem ahG:aj Tryz.prog ah 7 ahH:=bg ahI bJ ao6
def ahF:Fun:=bV ahH Ui J5 ahg 441 ajA
theorem ahE:aj Tryz.prog ah 7 ahF:=bg ahG bJ aoV
def ahD:Fun:=bV ahF Uj J6 ahh 475 ajB
theorem ahC:aj Tryz.prog ah 7 ahD:=bg ahE bJ aoW
def ahB:Fun:=bV ahD Uu Kv ahq 516 ajK
theorem ahA:aj Tryz.prog ah 7 ahB:=bg ahC bJ ao5
def DJ:Fun:=ahB
theorem aGS:aj Tryz.prog ah 7 DJ:=ahA
end Go.Proofs.Jm
