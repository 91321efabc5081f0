/- Part of the claim: facts that its last text uses. No conditions. -/
import Derived.Test.YtfaolchpaooboaaGreatDoorJbAW
import Derived.Test.YtfaolchpaooboaaGreatDoorJbAZ
import Derived.Test.YtfaolchpaooboaaGreatDoorJbAI
import Derived.Test.YtfaolchpaooboaaGreatDoorJbAS
import Derived.Test.YtfaolchpaooboaaGreatDoorJbAE
set_option linter.all false
noncomputable section
namespace Go.Proofs.Jm
open Go Go.Proofs Go.Vm
set_option maxRecDepth 100000
set_option maxHeartbeats 4000000
def aF5:aJ:=fun id=>match Nat.beq id 6 with|true=>some ([0,1,0,7,15,0,32,0,224,480,1023],[(0,.pure),(1,.read 0),(2,.pure),(3,.pure),(4,.read 0),(5,.pure),(6,.read 0),(7,.pure),(8,.pure),(9,.read 0),(10,.pure)])|false=>match Nat.beq id 11 with|true=>some ([0,1,0,7,15,0,32,0,224,480,1023,2047],[(0,.pure),(1,.read 0),(2,.pure),(3,.pure),(4,.read 0),(5,.pure),(6,.read 0),(7,.pure),(8,.pure),(9,.read 0),(10,.heavy),(11,.pure)])|false=>none
def akd(e:FuncId→Option Fun):FuncId→Option Fun:=fun f=>match Nat.beq f 27 with|true=>some (aV Tryz.prog ah (fun _=>true) (fun f=>e f) aF5 (fun _=>false) lf Tryz.f27)|false=>none
theorem ay0(e:FuncId→Option Fun)(he:∀f F,e f=some F→aj Tryz.prog ah f F):∀f F,akd e f=some F→aj Tryz.prog ah f F:=ai (aI aH he Tryz.func27 (by kernel_rfl) (by kernel_rfl)) (aA)
def akF:Fun:=kQ (levels (fun _=>none) akd 40) 27
theorem aG9:aj Tryz.prog ah 27 akF:=ji (iG aA ay0 40) 27
def aGf:aJ:=fun id=>match Nat.beq id 3 with|true=>some ([0,1,3,0,8,24,56,120,248,511,1023],[(0,.pure),(1,.pure),(2,.heavy),(3,.pure),(4,.pure),(5,.pure),(6,.pure),(7,.alloc),(8,.own 7),(9,.pure),(10,.pure)])|false=>none
def ake(e:FuncId→Option Fun):FuncId→Option Fun:=fun f=>match Nat.beq f 15 with|true=>some (aV Tryz.prog ah (fun _=>true) (fun f=>e f) aGf (fun _=>false) lf Tryz.f15)|false=>none
theorem ay1(e:FuncId→Option Fun)(he:∀f F,e f=some F→aj Tryz.prog ah f F):∀f F,ake e f=some F→aj Tryz.prog ah f F:=ai (aI aH he Tryz.func15 (by kernel_rfl) (by kernel_rfl)) (aA)
def rD:Fun:=kQ (levels (fun _=>none) ake 40) 15
theorem ako:aj Tryz.prog ah 15 rD:=ji (iG aA ay1 40) 15
def aNc:FuncId→Option Fun:=fun f=>none
def aM7:aJ:=fun id=>none
def Ii:Fun:=aV Tryz.prog ah (fun _=>true) aNc aM7 (fun _=>false) lf Tryz.f6
theorem avA:aj Tryz.prog ah 6 Ii:=aI aH aA Tryz.func6 (by kernel_rfl) (by kernel_rfl)
def aNa:FuncId→Option Fun:=fun f=>none
def aM6:aJ:=fun id=>match Nat.beq id 5 with|true=>some ([0,1,0,0,12,28,60,124,255,511,1023],[(0,.pure),(1,.read 0),(2,.pure),(3,.pure),(4,.pure),(5,.pure),(6,.read 0),(7,.alloc),(8,.heavy),(9,.pure),(10,.heavy)])|false=>match Nat.beq id 6 with|true=>some ([0,1,0,0,8,28,60,124,255,511,1023],[(0,.pure),(1,.read 0),(2,.pure),(3,.pure),(4,.pure),(5,.pure),(6,.read 0),(7,.alloc),(8,.heavy),(9,.pure),(10,.heavy)])|false=>none
def ql:Fun:=aV Tryz.prog ah (fun _=>true) aNa aM6 (fun _=>false) lf Tryz.f8
theorem agF:aj Tryz.prog ah 8 ql:=aI aH aA Tryz.func8 (by kernel_rfl) (by kernel_rfl)
def aGR:FuncId→Option Fun:=fun f=>none
def aGi:aJ:=fun id=>none
def jP:Fun:=aV Tryz.prog ah (fun _=>true) aGR aGi (fun _=>false) lf Tryz.f10
theorem OM:aj Tryz.prog ah 10 jP:=aI aH aA Tryz.func10 (by kernel_rfl) (by kernel_rfl)
def aGP:FuncId→Option Fun:=fun f=>none
def aGg:aJ:=fun id=>none
def O0:Fun:=aV Tryz.prog ah (fun _=>true) aGP aGg (fun _=>false) lf Tryz.f14
theorem aHd:aj Tryz.prog ah 14 O0:=aI aH aA Tryz.func14 (by kernel_rfl) (by kernel_rfl)
def aGN:FuncId→Option Fun:=fun f=>none
def aGd:aJ:=fun id=>none
def pz:Fun:=aV Tryz.prog ah (fun _=>true) aGN aGd (fun _=>false) lf Tryz.f17
theorem DI:aj Tryz.prog ah 17 pz:=aI aH aA Tryz.func17 (by kernel_rfl) (by kernel_rfl)
def aM9:FuncId→Option Fun:=fun f=>match Nat.beq f 17 with|true=>some pz|false=>none
def aM5:aJ:=fun id=>none
def Ih:Fun:=aV Tryz.prog ah (fun _=>true) aM9 aM5 (fun _=>false) lf Tryz.f9
theorem aNe:aj Tryz.prog ah 9 Ih:=aI aH (ai DI aA) Tryz.func9 (by kernel_rfl) (by kernel_rfl)
def aGL:FuncId→Option Fun:=fun f=>none
def aGb:aJ:=fun id=>none
def OY:Fun:=aV Tryz.prog ah (fun _=>true) aGL aGb (fun _=>false) lf Tryz.f19
theorem akm:aj Tryz.prog ah 19 OY:=aI aH aA Tryz.func19 (by kernel_rfl) (by kernel_rfl)
def aGJ:FuncId→Option Fun:=fun f=>none
def aF9:aJ:=fun id=>none
def OX:Fun:=aV Tryz.prog ah (fun _=>true) aGJ aF9 (fun _=>false) lf Tryz.f21
theorem akl:aj Tryz.prog ah 21 OX:=aI aH aA Tryz.func21 (by kernel_rfl) (by kernel_rfl)
def aGF:FuncId→Option Fun:=fun f=>none
def aF6:aJ:=fun id=>none
def akG:Fun:=aV Tryz.prog ah (fun _=>true) aGF aF6 (fun _=>false) lf Tryz.f26
theorem aHa:aj Tryz.prog ah 26 akG:=aI aH aA Tryz.func26 (by kernel_rfl) (by kernel_rfl)
def aGC:FuncId→Option Fun:=fun f=>none
def aF2:aJ:=fun id=>none
def akD:Fun:=aV Tryz.prog ah (fun _=>true) aGC aF2 (fun _=>false) lf Tryz.f30
theorem aG7:aj Tryz.prog ah 30 akD:=aI aH aA Tryz.func30 (by kernel_rfl) (by kernel_rfl)
def aGA:FuncId→Option Fun:=fun f=>none
def aF0:aJ:=fun id=>none
def akC:Fun:=aV Tryz.prog ah (fun _=>true) aGA aF0 (fun _=>false) lf Tryz.f32
theorem aG6:aj Tryz.prog ah 32 akC:=aI aH aA Tryz.func32 (by kernel_rfl) (by kernel_rfl)
def aGK:FuncId→Option Fun:=fun f=>match Nat.beq f 32 with|true=>some akC|false=>none
def aGa:aJ:=fun id=>none
def akI:Fun:=aV Tryz.prog ah (fun _=>true) aGK aGa (fun _=>false) lf Tryz.f20
theorem aHc:aj Tryz.prog ah 20 akI:=aI aH (ai aG6 aA) Tryz.func20 (by kernel_rfl) (by kernel_rfl)
def DK:Fun:=fM yP uo
theorem OJ:aj Tryz.prog ah 48 DK:=Oj aNO
def aGw:FuncId→Option Fun:=fun f=>none
def aFV:aJ:=fun id=>none
def OT:Fun:=aV Tryz.prog ah (fun _=>true) aGw aFV (fun _=>false) lf Tryz.f53
theorem akh:aj Tryz.prog ah 53 OT:=aI aH aA Tryz.func53 (by kernel_rfl) (by kernel_rfl)
def aGs:FuncId→Option Fun:=fun f=>none
def aFR:aJ:=fun id=>none
def akz:Fun:=aV Tryz.prog ah (fun _=>true) aGs aFR (fun _=>false) lf Tryz.f58
theorem aG3:aj Tryz.prog ah 58 akz:=aI aH aA Tryz.func58 (by kernel_rfl) (by kernel_rfl)
def akx:Fun:=uf .i64
theorem aG1:aj Tryz.prog ah 60 akx:=yh Tryz.func60 (by kernel_rfl) (by kernel_rfl) (by kernel_rfl) .i64 (by kernel_rfl)
def aGE:FuncId→Option Fun:=fun f=>match Nat.beq f 60 with|true=>some akx|false=>none
def aF4:aJ:=fun id=>none
def OW:Fun:=aV Tryz.prog ah (fun _=>true) aGE aF4 (fun _=>false) lf Tryz.f28
theorem akk:aj Tryz.prog ah 28 OW:=aI aH (ai aG1 aA) Tryz.func28 (by kernel_rfl) (by kernel_rfl)
def aGO:FuncId→Option Fun:=fun f=>match Nat.beq f 28 with|true=>some OW|false=>none
def aGe:aJ:=fun id=>none
def rC:Fun:=aV Tryz.prog ah (fun _=>true) aGO aGe (fun _=>false) lf Tryz.f16
theorem OL:aj Tryz.prog ah 16 rC:=aI aH (ai akk aA) Tryz.func16 (by kernel_rfl) (by kernel_rfl)
def aGn:FuncId→Option Fun:=fun f=>match Nat.beq f 16 with|true=>some rC|false=>none
def aFM:aJ:=fun id=>match Nat.beq id 1 with|true=>some ([0,1,0,4,12,28,60,127,255],[(0,.pure),(1,.heavy),(2,.pure),(3,.pure),(4,.pure),(5,.pure),(6,.read 1),(7,.pure),(8,.pure)])|false=>none
def aks:Fun:=aV Tryz.prog ah (fun _=>true) aGn aFM (fun _=>false) lf Tryz.f65
theorem aGW:aj Tryz.prog ah 65 aks:=aI aH (ai OL aA) Tryz.func65 (by kernel_rfl) (by kernel_rfl)
def akv:Fun:=qh
theorem aGZ:aj Tryz.prog ah 62 akv:=vW Tryz.func62 (by kernel_rfl) (by kernel_rfl) (by kernel_rfl) (by kernel_rfl)
def aGB:FuncId→Option Fun:=fun f=>match Nat.beq f 62 with|true=>some akv|false=>none
def aF1:aJ:=fun id=>none
def OV:Fun:=aV Tryz.prog ah (fun _=>true) aGB aF1 (fun _=>false) lf Tryz.f31
theorem akj:aj Tryz.prog ah 31 OV:=aI aH (ai aGZ aA) Tryz.func31 (by kernel_rfl) (by kernel_rfl)
def aGl:FuncId→Option Fun:=fun f=>none
def aFK:aJ:=fun id=>match Nat.beq id 5 with|true=>some ([0,1,3,7,15,7,39,103,231,7,519,2023,4071,8167,16383,32767],[(0,.pure),(1,.pure),(2,.pure),(3,.pure),(4,.read 0),(5,.pure),(6,.pure),(7,.pure),(8,.read 0),(9,.pure),(10,.pure),(11,.pure),(12,.pure),(13,.read 0),(14,.pure),(15,.pure)])|false=>match Nat.beq id 6 with|true=>some ([0,0,2,6,14,0,32,126,255,511,1023],[(1,.pure),(2,.pure),(3,.pure),(4,.read 0),(5,.read 0),(6,.alloc),(7,.heavy),(0,.pure),(8,.pure),(9,.pure),(10,.heavy)])|false=>match Nat.beq id 8 with|true=>some ([0,1,3,7,15,0,32,96,224,511,1023],[(0,.pure),(1,.pure),(2,.pure),(3,.read 0),(4,.pure),(5,.pure),(6,.pure),(7,.pure),(8,.read 0),(9,.pure),(10,.pure)])|false=>none
def akq:Fun:=aV Tryz.prog ah (fun _=>true) aGl aFK (fun _=>false) lf Tryz.f67
theorem aGU:aj Tryz.prog ah 67 akq:=aI aH aA Tryz.func67 (by kernel_rfl) (by kernel_rfl)
def aBV:FuncId→Option Fun:=fun f=>none
def aAs:aJ:=fun id=>none
def EX:Fun:=aV Tryz.prog ah (fun _=>true) aBV aAs (fun _=>false) lf Tryz.f138
theorem Zl:aj Tryz.prog ah 138 EX:=aI aH aA Tryz.func138 (by kernel_rfl) (by kernel_rfl)
def aBR:FuncId→Option Fun:=fun f=>none
def aAn:aJ:=fun id=>match Nat.beq id 1 with|true=>some ([0,1,3,7,15,0,32,96,224,480,1023,2047],[(0,.pure),(1,.pure),(2,.pure),(3,.read 0),(4,.heavy),(5,.pure),(6,.pure),(7,.pure),(8,.read 1),(9,.pure),(10,.heavy),(11,.pure)])|false=>none
def aaW:Fun:=aV Tryz.prog ah (fun _=>true) aBR aAn (fun _=>false) lf Tryz.f143
theorem aDr:aj Tryz.prog ah 143 aaW:=aI aH aA Tryz.func143 (by kernel_rfl) (by kernel_rfl)
def aBZ:FuncId→Option Fun:=fun f=>none
def aAw:aJ:=fun id=>match Nat.beq id 5 with|true=>some ([0,1,0,0,12,28,60,124,255,511,1023],[(0,.pure),(1,.read 0),(2,.pure),(3,.pure),(4,.pure),(5,.pure),(6,.read 0),(7,.alloc),(8,.heavy),(9,.pure),(10,.heavy)])|false=>match Nat.beq id 6 with|true=>some ([0,1,0,0,8,28,60,124,255,511,1023],[(0,.pure),(1,.read 0),(2,.pure),(3,.pure),(4,.pure),(5,.pure),(6,.read 0),(7,.alloc),(8,.heavy),(9,.pure),(10,.heavy)])|false=>none
def lJ:Fun:=aV Tryz.prog ah (fun _=>true) aBZ aAw (fun _=>false) lf Tryz.f134
theorem mV:aj Tryz.prog ah 134 lJ:=aI aH aA Tryz.func134 (by kernel_rfl) (by kernel_rfl)
def aBY:FuncId→Option Fun:=fun f=>none
def aAv:aJ:=fun id=>none
def lI:Fun:=aV Tryz.prog ah (fun _=>true) aBY aAv (fun _=>false) lf Tryz.f135
theorem mQ:aj Tryz.prog ah 135 lI:=aI aH aA Tryz.func135 (by kernel_rfl) (by kernel_rfl)
def aBQ:FuncId→Option Fun:=fun f=>none
def aAm:aJ:=fun id=>none
def rE:Fun:=aV Tryz.prog ah (fun _=>true) aBQ aAm (fun _=>false) lf Tryz.f144
theorem xE:aj Tryz.prog ah 144 rE:=aI aH aA Tryz.func144 (by kernel_rfl) (by kernel_rfl)
def aGu:FuncId→Option Fun:=fun f=>match Nat.beq f 134 with|true=>some lJ|false=>match Nat.beq f 135 with|true=>some lI|false=>match Nat.beq f 144 with|true=>some rE|false=>none
def aFT:aJ:=fun id=>match Nat.beq id 5 with|true=>some ([0,1,0,4,12,0,32,0,128,412,1020,2044,4092,8191,16383,32767],[(2,.pure),(3,.read 0),(4,.heavy),(7,.pure),(8,.read 1),(9,.heavy),(5,.pure),(6,.read 2),(10,.alloc),(11,.heavy),(0,.pure),(1,.read 3),(12,.alloc),(13,.heavy),(14,.pure),(15,.heavy)])|false=>match Nat.beq id 7 with|true=>some ([0,0,1,5,15,31,63],[(0,.heavy),(2,.heavy),(3,.heavy),(1,.read 3),(4,.alloc),(5,.heavy),(6,.heavy)])|false=>none
def OQ:Fun:=aV Tryz.prog ah (fun _=>true) aGu aFT (fun _=>false) lf Tryz.f55
theorem akg:aj Tryz.prog ah 55 OQ:=aI aH (ai mV (ai mQ (ai xE aA))) Tryz.func55 (by kernel_rfl) (by kernel_rfl)
def aBK:FuncId→Option Fun:=fun f=>none
def aAf:aJ:=fun id=>none
def aaP:Fun:=aV Tryz.prog ah (fun _=>true) aBK aAf (fun _=>false) lf Tryz.f152
theorem aDk:aj Tryz.prog ah 152 aaP:=aI aH aA Tryz.func152 (by kernel_rfl) (by kernel_rfl)
def aBF:FuncId→Option Fun:=fun f=>none
def aAa:aJ:=fun id=>none
def EU:Fun:=aV Tryz.prog ah (fun _=>true) aBF aAa (fun _=>false) lf Tryz.f179
theorem Zj:aj Tryz.prog ah 179 EU:=aI aH aA Tryz.func179 (by kernel_rfl) (by kernel_rfl)
def aB7:FuncId→Option Fun:=fun f=>match Nat.beq f 179 with|true=>some EU|false=>none
def aAG:aJ:=fun id=>none
def aa7:Fun:=aV Tryz.prog ah (fun _=>true) aB7 aAG (fun _=>false) lf Tryz.f101
theorem aDD:aj Tryz.prog ah 101 aa7:=aI aH (ai Zj aA) Tryz.func101 (by kernel_rfl) (by kernel_rfl)
def aBE:FuncId→Option Fun:=fun f=>none
def az9:aJ:=fun id=>none
def ET:Fun:=aV Tryz.prog ah (fun _=>true) aBE az9 (fun _=>false) lf Tryz.f180
theorem Zi:aj Tryz.prog ah 180 ET:=aI aH aA Tryz.func180 (by kernel_rfl) (by kernel_rfl)
def aB6:FuncId→Option Fun:=fun f=>match Nat.beq f 180 with|true=>some ET|false=>none
def aAF:aJ:=fun id=>none
def aa6:Fun:=aV Tryz.prog ah (fun _=>true) aB6 aAF (fun _=>false) lf Tryz.f110
theorem aDC:aj Tryz.prog ah 110 aa6:=aI aH (ai Zi aA) Tryz.func110 (by kernel_rfl) (by kernel_rfl)
def xP:Fun:=fM anc nO
theorem EH:aj Tryz.prog ah 186 xP:=ax8 aHH
def aB5:FuncId→Option Fun:=fun f=>match Nat.beq f 186 with|true=>some xP|false=>none
def aAE:aJ:=fun id=>none
def aa5:Fun:=aV Tryz.prog ah (fun _=>true) aB5 aAE (fun _=>false) lf Tryz.f122
theorem aDB:aj Tryz.prog ah 122 aa5:=aI aH (ai EH aA) Tryz.func122 (by kernel_rfl) (by kernel_rfl)
def aB4:FuncId→Option Fun:=fun f=>match Nat.beq f 186 with|true=>some xP|false=>none
def aAC:aJ:=fun id=>match Nat.beq id 4 with|true=>some ([0,1,3,7,0,16,48,112,240,511,1023,2047,4095,8191,16383,2047,34815,100351,231423,524287,1048575,2097151,4194303,8388607,16777215,33554431,67108863,8388607,142606335,411041791,947912703,2147483647,4294967295,8589934591],[(0,.pure),(1,.pure),(2,.pure),(3,.read 0),(4,.pure),(5,.pure),(6,.pure),(7,.read 0),(8,.pure),(9,.pure),(10,.pure),(11,.pure),(12,.pure),(13,.pure),(14,.read 0),(15,.pure),(16,.pure),(17,.pure),(18,.read 0),(19,.pure),(20,.pure),(21,.pure),(22,.pure),(23,.pure),(24,.pure),(25,.pure),(26,.read 0),(27,.pure),(28,.pure),(29,.pure),(30,.read 0),(31,.pure),(32,.pure),(33,.pure)])|false=>match Nat.beq id 6 with|true=>some ([0,1,0,4,12,28,0,64,192,448,1020,2044,4092,8191,16383],[(0,.pure),(1,.pure),(2,.pure),(3,.pure),(4,.pure),(5,.read 0),(6,.pure),(7,.pure),(8,.pure),(9,.read 0),(10,.pure),(11,.pure),(12,.pure),(13,.pure),(14,.pure)])|false=>match Nat.beq id 9 with|true=>some ([0,1,3,7,15,31,63,127,255,511,63,2047,4095,8191,16383,32767,65535,131071,262143,524287,1048575,2097151,4194303,8388607,16777215,33554431,67108863,134217727,268435455,536870911,1073741823,134217727,2281701375,6576668671,15166603263,32346472447,68719476735,137438953471,274877906943,549755813887,1099511627775,2199023255551,274877906943,4672924418047,13469017440255,31061203484671,70368744177663,140737488355327,281474976710655,562949953421311,1125899906842623,2251799813685247,4503599627370495,562949953421311,9570149208162303,27584547717644287,63613344736608255,144115188075855871,288230376151711743,576460752303423487,1152921504606846975,2305843009213693951,4611686018427387903,9223372036854775807,18446744073709551615,2305843009213693951,39199331156632797183,112986307451471003647,260560260041147416575,590295810358705651711,1180591620717411303423,2361183241434822606847,4722366482869645213695,9444732965739290427391],[(0,.pure),(1,.pure),(2,.pure),(3,.pure),(4,.pure),(5,.pure),(6,.pure),(7,.pure),(8,.pure),(9,.read 0),(10,.pure),(11,.pure),(12,.pure),(13,.pure),(14,.pure),(15,.pure),(16,.pure),(17,.pure),(18,.pure),(19,.pure),(20,.pure),(21,.pure),(22,.pure),(23,.pure),(24,.pure),(25,.pure),(26,.pure),(27,.pure),(28,.pure),(29,.pure),(30,.read 0),(31,.pure),(32,.pure),(33,.pure),(34,.read 0),(35,.pure),(36,.pure),(37,.pure),(38,.pure),(39,.pure),(40,.pure),(41,.read 0),(42,.pure),(43,.pure),(44,.pure),(45,.read 0),(46,.pure),(47,.pure),(48,.pure),(49,.pure),(50,.pure),(51,.pure),(52,.read 0),(53,.pure),(54,.pure),(55,.pure),(56,.read 0),(57,.pure),(58,.pure),(59,.pure),(60,.pure),(61,.pure),(62,.pure),(63,.pure),(64,.read 0),(65,.pure),(66,.pure),(67,.pure),(68,.read 0),(69,.pure),(70,.pure),(71,.pure),(72,.pure),(73,.pure)])|false=>none
def aa4:Fun:=aV Tryz.prog ah (fun _=>true) aB4 aAC (fun _=>false) lf Tryz.f125
theorem aDA:aj Tryz.prog ah 125 aa4:=aI aH (ai EH aA) Tryz.func125 (by kernel_rfl) (by kernel_rfl)
def aaJ:Fun:=aEr
theorem aDG:iQ Tryz.prog ah 189 aaJ:=by
 refine avP (s:=3) (t:=4) Tryz.func189 (by kernel_rfl) rfl rfl rfl (fun _ _=>rfl) rfl rfl (fun ρ w hc h=>?_) (of_decide_eq_true (by kernel_rfl)) (of_decide_eq_true (by kernel_rfl)) rfl
 have h2:=hc .nilIface
 simp only [execOp,h,h2]
 simp [eqGuard,binOp]
 rw [show(Op.equal 20 Value.nilIface Value.nilIface).run Tryz.prog w=.ok true w by rfl]
 rfl
def xO:Fun:=fM Eo pI
theorem EG:aj Tryz.prog ah 190 xO:=Uf aHF
def aBB:FuncId→Option Fun:=fun f=>none
def az3:aJ:=fun id=>none
def aaE:Fun:=aV Tryz.prog ah (fun _=>true) aBB az3 (fun _=>false) lf Tryz.f197
theorem aDa:aj Tryz.prog ah 197 aaE:=aI aH aA Tryz.func197 (by kernel_rfl) (by kernel_rfl)
def aBW:FuncId→Option Fun:=fun f=>match Nat.beq f 197 with|true=>some aaE|false=>none
def aAt:aJ:=fun id=>none
def EY:Fun:=aV Tryz.prog ah (fun _=>true) aBW aAt (fun _=>false) lf Tryz.f137
theorem Zm:aj Tryz.prog ah 137 EY:=aI aH (ai aDa aA) Tryz.func137 (by kernel_rfl) (by kernel_rfl)
def aBA:FuncId→Option Fun:=fun f=>none
def az2:aJ:=fun id=>none
def aaD:Fun:=aV Tryz.prog ah (fun _=>true) aBA az2 (fun _=>false) lf Tryz.f199
theorem aC9:aj Tryz.prog ah 199 aaD:=aI aH aA Tryz.func199 (by kernel_rfl) (by kernel_rfl)
def aBU:FuncId→Option Fun:=fun f=>match Nat.beq f 199 with|true=>some aaD|false=>none
def aAr:aJ:=fun id=>none
def aaZ:Fun:=aV Tryz.prog ah (fun _=>true) aBU aAr (fun _=>false) lf Tryz.f139
theorem aDu:aj Tryz.prog ah 139 aaZ:=aI aH (ai aC9 aA) Tryz.func139 (by kernel_rfl) (by kernel_rfl)
def aGx:FuncId→Option Fun:=fun f=>match Nat.beq f 28 with|true=>some OW|false=>match Nat.beq f 31 with|true=>some OV|false=>match Nat.beq f 137 with|true=>some EY|false=>match Nat.beq f 138 with|true=>some EX|false=>match Nat.beq f 139 with|true=>some aaZ|false=>none
def aFW:aJ:=fun id=>match Nat.beq id 3 with|true=>some ([0,1,3,7,0,16,0,112,0,256,768,1792,4080,0,8192,24576,57344,0,131072,393216,917504,0,2097152,6291456,14680064,33554431,67108863,134217727],[(4,.pure),(5,.heavy),(6,.pure),(7,.heavy),(8,.pure),(9,.pure),(10,.pure),(11,.read 2),(12,.heavy),(0,.pure),(1,.pure),(2,.pure),(3,.read 3),(13,.pure),(14,.pure),(15,.pure),(16,.read 3),(17,.pure),(18,.pure),(19,.pure),(20,.read 3),(21,.pure),(22,.pure),(23,.pure),(24,.read 3),(25,.pure),(26,.alloc),(27,.pure)])|false=>match Nat.beq id 4 with|true=>some ([0,1,3,0,8,24,56,127],[(3,.pure),(4,.pure),(5,.pure),(6,.heavy),(0,.pure),(1,.pure),(2,.pure),(7,.heavy)])|false=>none
def OU:Fun:=aV Tryz.prog ah (fun _=>true) aGx aFW (fun _=>false) lf Tryz.f52
theorem aki:aj Tryz.prog ah 52 OU:=aI aH (ai akk (ai akj (ai Zm (ai Zl (ai aDu aA))))) Tryz.func52 (by kernel_rfl) (by kernel_rfl)
def aBx:FuncId→Option Fun:=fun f=>none
def azX:aJ:=fun id=>none
def aaA:Fun:=aV Tryz.prog ah (fun _=>true) aBx azX (fun _=>false) lf Tryz.f205
theorem aC6:aj Tryz.prog ah 205 aaA:=aI aH aA Tryz.func205 (by kernel_rfl) (by kernel_rfl)
def aBS:FuncId→Option Fun:=fun f=>match Nat.beq f 205 with|true=>some aaA|false=>none
def aAo:aJ:=fun id=>none
def EW:Fun:=aV Tryz.prog ah (fun _=>true) aBS aAo (fun _=>false) lf Tryz.f142
theorem Zk:aj Tryz.prog ah 142 EW:=aI aH (ai aC6 aA) Tryz.func142 (by kernel_rfl) (by kernel_rfl)
def aBs:FuncId→Option Fun:=fun f=>none
def azS:aJ:=fun id=>none
def aax:Fun:=aV Tryz.prog ah (fun _=>true) aBs azS (fun _=>false) lf Tryz.f211
theorem aC3:aj Tryz.prog ah 211 aax:=aI aH aA Tryz.func211 (by kernel_rfl) (by kernel_rfl)
def aas:Fun:=fM IY rH
theorem aCY:aj Tryz.prog ah 222 aas:=abo aHC
def aAh:aJ:=fun id=>none
def YU(e:FuncId→Option Fun):FuncId→Option Fun:=fun f=>match Nat.beq f 149 with|true=>some (aV Tryz.prog ah (fun _=>true) (fun f=>match Nat.beq f 15 with|true=>some rD|false=>match Nat.beq f 222 with|true=>some aas|false=>e f) aAh (fun _=>false) lf Tryz.f149)|false=>none
theorem as8(e:FuncId→Option Fun)(he:∀f F,e f=some F→aj Tryz.prog ah f F):∀f F,YU e f=some F→aj Tryz.prog ah f F:=ai (aI aH (ai ako (ai aCY he)) Tryz.func149 (by kernel_rfl) (by kernel_rfl)) (aA)
def aaR:Fun:=kQ (levels (fun _=>none) YU 40) 149
theorem aDm:aj Tryz.prog ah 149 aaR:=ji (iG aA as8 40) 149
def aar:Fun:=ani
theorem aCX:aj Tryz.prog ah 223 aar:=ayc Tryz.func223 (by kernel_rfl) (by kernel_rfl) (by kernel_rfl) (by kernel_rfl)
def aBL:FuncId→Option Fun:=fun f=>match Nat.beq f 223 with|true=>some aar|false=>none
def aAg:aJ:=fun id=>none
def aaQ:Fun:=aV Tryz.prog ah (fun _=>true) aBL aAg (fun _=>false) lf Tryz.f150
theorem aDl:aj Tryz.prog ah 150 aaQ:=aI aH (ai aCX aA) Tryz.func150 (by kernel_rfl) (by kernel_rfl)
def aGq:FuncId→Option Fun:=fun f=>match Nat.beq f 150 with|true=>some aaQ|false=>none
def aFP:aJ:=fun id=>none
def akw:Fun:=aV Tryz.prog ah (fun _=>true) aGq aFP (fun _=>false) lf Tryz.f61
theorem aG0:aj Tryz.prog ah 61 akw:=aI aH (ai aDl aA) Tryz.func61 (by kernel_rfl) (by kernel_rfl)
def aGD:FuncId→Option Fun:=fun f=>match Nat.beq f 61 with|true=>some akw|false=>none
def aF3:aJ:=fun id=>none
def akE:Fun:=aV Tryz.prog ah (fun _=>true) aGD aF3 (fun _=>false) lf Tryz.f29
theorem aG8:aj Tryz.prog ah 29 akE:=aI aH (ai aG0 aA) Tryz.func29 (by kernel_rfl) (by kernel_rfl)
def aGM:FuncId→Option Fun:=fun f=>match Nat.beq f 29 with|true=>some akE|false=>match Nat.beq f 30 with|true=>some akD|false=>match Nat.beq f 31 with|true=>some OV|false=>none
def aGc:aJ:=fun id=>none
def OZ:Fun:=aV Tryz.prog ah (fun _=>true) aGM aGc (fun _=>false) lf Tryz.f18
theorem akn:aj Tryz.prog ah 18 OZ:=aI aH (ai aG8 (ai aG7 (ai akj aA))) Tryz.func18 (by kernel_rfl) (by kernel_rfl)
def aNd:FuncId→Option Fun:=fun f=>match Nat.beq f 18 with|true=>some OZ|false=>match Nat.beq f 19 with|true=>some OY|false=>match Nat.beq f 20 with|true=>some akI|false=>match Nat.beq f 21 with|true=>some OX|false=>none
def aM8:aJ:=fun id=>none
def agH:Fun:=aV Tryz.prog ah (fun _=>true) aNd aM8 (fun _=>false) lf Tryz.f5
theorem aNf:aj Tryz.prog ah 5 agH:=aI aH (ai akn (ai akm (ai aHc (ai akl aA)))) Tryz.func5 (by kernel_rfl) (by kernel_rfl)
def aaq:Fun:=xB .i64
theorem aCW:aj Tryz.prog ah 225 aaq:=Dz Tryz.func225 (by kernel_rfl) (by kernel_rfl) (by kernel_rfl) .i64 (by kernel_rfl)
def aBJ:FuncId→Option Fun:=fun f=>match Nat.beq f 225 with|true=>some aaq|false=>none
def aAe:aJ:=fun id=>none
def aaO:Fun:=aV Tryz.prog ah (fun _=>true) aBJ aAe (fun _=>false) lf Tryz.f153
theorem aDj:aj Tryz.prog ah 153 aaO:=aI aH (ai aCW aA) Tryz.func153 (by kernel_rfl) (by kernel_rfl)
def aGm:FuncId→Option Fun:=fun f=>match Nat.beq f 153 with|true=>some aaO|false=>none
def aFL:aJ:=fun id=>none
def akr:Fun:=aV Tryz.prog ah (fun _=>true) aGm aFL (fun _=>false) lf Tryz.f66
theorem aGV:aj Tryz.prog ah 66 akr:=aI aH (ai aDj aA) Tryz.func66 (by kernel_rfl) (by kernel_rfl)
def E5:Fun:=fM Iy rO
theorem Zo:aj Tryz.prog ah 123 E5:=abh aHK
def aFY:aJ:=fun id=>match Nat.beq id 2 with|true=>some ([0,1,3,7,15,31,63,127,255,511,63,1087,3135,7231,15423,32767,65535],[(0,.pure),(1,.pure),(2,.pure),(3,.read 0),(4,.pure),(5,.pure),(6,.pure),(7,.pure),(8,.pure),(9,.read 0),(10,.pure),(11,.pure),(12,.pure),(13,.read 0),(14,.pure),(15,.pure),(16,.pure)])|false=>match Nat.beq id 5 with|true=>some ([0,1,3,7,0,16,48,112,255],[(0,.pure),(1,.pure),(2,.pure),(3,.read 0),(4,.pure),(5,.pure),(6,.pure),(7,.read 0),(8,.pure)])|false=>none
def aAD:aJ:=fun id=>match Nat.beq id 29 with|true=>some ([0,1,0,4,12,31,63,127],[(2,.pure),(3,.heavy),(0,.pure),(1,.read 1),(4,.alloc),(5,.heavy),(6,.pure),(7,.heavy)])|false=>none
def akc(e:FuncId→Option Fun):FuncId→Option Fun:=fun f=>match Nat.beq f 47 with|true=>some (aV Tryz.prog ah (fun _=>true) (fun f=>match Nat.beq f 48 with|true=>some DK|false=>match Nat.beq f 122 with|true=>some aa5|false=>match Nat.beq f 123 with|true=>some E5|false=>match Nat.beq f 125 with|true=>some aa4|false=>e f) aFY (fun _=>false) lf Tryz.f47)|false=>match Nat.beq f 124 with|true=>some (aV Tryz.prog ah (fun _=>true) (fun f=>match Nat.beq f 48 with|true=>some DK|false=>match Nat.beq f 123 with|true=>some E5|false=>match Nat.beq f 186 with|true=>some xP|false=>e f) aAD (fun _=>false) lf Tryz.f124)|false=>none
theorem ayZ(e:FuncId→Option Fun)(he:∀f F,e f=some F→aj Tryz.prog ah f F):∀f F,akc e f=some F→aj Tryz.prog ah f F:=ai (aI aH (ai OJ (ai aDB (ai Zo (ai aDA he)))) Tryz.func47 (by kernel_rfl) (by kernel_rfl)) (ai (aI aH (ai OJ (ai Zo (ai EH he))) Tryz.func124 (by kernel_rfl) (by kernel_rfl)) (aA))
def akA:Fun:=kQ (levels (fun _=>none) akc 40) 47
theorem aG4:aj Tryz.prog ah 47 akA:=ji (iG aA ayZ 40) 47
def aGI:FuncId→Option Fun:=fun f=>match Nat.beq f 47 with|true=>some akA|false=>match Nat.beq f 48 with|true=>some DK|false=>none
def aF8:aJ:=fun id=>match Nat.beq id 6 with|true=>some ([0,1,3,7,0,16,48,112,240,511],[(0,.pure),(1,.pure),(2,.pure),(3,.read 0),(4,.pure),(5,.pure),(6,.pure),(7,.read 0),(8,.pure),(9,.pure)])|false=>match Nat.beq id 9 with|true=>some ([0,0,2,6,14,1,63],[(0,.pure),(5,.heavy),(1,.pure),(2,.pure),(3,.pure),(4,.read 1),(6,.pure)])|false=>none
def dD:Fun:=aV Tryz.prog ah (fun _=>true) aGI aF8 (fun _=>false) lf Tryz.f23
theorem dJ:aj Tryz.prog ah 23 dD:=aI aH (ai aG4 (ai OJ aA)) Tryz.func23 (by kernel_rfl) (by kernel_rfl)
def aaN:Fun:=fM qy pK
theorem aDi:aj Tryz.prog ah 154 aaN:=TF aHI
def azO:aJ:=fun id=>match Nat.beq id 18 with|true=>some ([0,1,0,7,15,0,32,0,224,480,1023],[(0,.pure),(1,.read 0),(2,.pure),(3,.pure),(4,.read 0),(5,.pure),(6,.read 0),(7,.pure),(8,.pure),(9,.read 0),(10,.pure)])|false=>none
def YQ(e:FuncId→Option Fun):FuncId→Option Fun:=fun f=>match Nat.beq f 221 with|true=>some (aV Tryz.prog ah (fun _=>true) (fun f=>match Nat.beq f 154 with|true=>some aaN|false=>e f) azO (fun _=>false) lf Tryz.f221)|false=>none
theorem as5(e:FuncId→Option Fun)(he:∀f F,e f=some F→aj Tryz.prog ah f F):∀f F,YQ e f=some F→aj Tryz.prog ah f F:=ai (aI aH (ai aDi he) Tryz.func221 (by kernel_rfl) (by kernel_rfl)) (aA)
def aat:Fun:=kQ (levels (fun _=>none) YQ 40) 221
theorem aCZ:aj Tryz.prog ah 221 aat:=ji (iG aA as5 40) 221
def aBM:FuncId→Option Fun:=fun f=>match Nat.beq f 221 with|true=>some aat|false=>none
def aAi:aJ:=fun id=>none
def aaS:Fun:=aV Tryz.prog ah (fun _=>true) aBM aAi (fun _=>false) lf Tryz.f148
theorem aDn:aj Tryz.prog ah 148 aaS:=aI aH (ai aCZ aA) Tryz.func148 (by kernel_rfl) (by kernel_rfl)
def aGr:FuncId→Option Fun:=fun f=>match Nat.beq f 148 with|true=>some aaS|false=>match Nat.beq f 149 with|true=>some aaR|false=>none
def aFQ:aJ:=fun id=>none
def aky:Fun:=aV Tryz.prog ah (fun _=>true) aGr aFQ (fun _=>false) lf Tryz.f59
theorem aG2:aj Tryz.prog ah 59 aky:=aI aH (ai aDn (ai aDm aA)) Tryz.func59 (by kernel_rfl) (by kernel_rfl)
def aGG:FuncId→Option Fun:=fun f=>match Nat.beq f 8 with|true=>some ql|false=>match Nat.beq f 10 with|true=>some jP|false=>match Nat.beq f 58 with|true=>some akz|false=>match Nat.beq f 59 with|true=>some aky|false=>none
def aF7:aJ:=fun id=>match Nat.beq id 1 with|true=>some ([0,1,0,3,15,31,0,127],[(0,.pure),(1,.heavy),(3,.heavy),(2,.read 2),(4,.alloc),(5,.heavy),(6,.alloc),(7,.heavy)])|false=>match Nat.beq id 2 with|true=>some ([0,1,3,0,8,31,63,127,255,511,1023,1023,2047,8191],[(0,.heavy),(1,.heavy),(2,.heavy),(3,.read 3),(4,.alloc),(5,.heavy),(6,.alloc),(7,.heavy),(8,.heavy),(9,.pure),(10,.pure),(11,.pure),(12,.pure),(13,.pure)])|false=>none
def dB:Fun:=aV Tryz.prog ah (fun _=>true) aGG aF7 (fun _=>false) lf Tryz.f25
theorem dI:aj Tryz.prog ah 25 dB:=aI aH (ai agF (ai OM (ai aG3 (ai aG2 aA)))) Tryz.func25 (by kernel_rfl) (by kernel_rfl)
def xJ:Fun:=fM am1 jR
theorem EC:aj Tryz.prog ah 246 xJ:=am0 Tf
def EP:Fun:=fM abK nM
theorem Ze:aj Tryz.prog ah 251 EP:=ahz ama
def aBG:FuncId→Option Fun:=fun f=>none
def aAb:aJ:=fun id=>none
def aaK:Fun:=aV Tryz.prog ah (fun _=>true) aBG aAb (fun _=>false) lf Tryz.f167
theorem aDf:aj Tryz.prog ah 167 aaK:=aI aH aA Tryz.func167 (by kernel_rfl) (by kernel_rfl)
def az7:aJ:=fun id=>none
def YS(e:FuncId→Option Fun):FuncId→Option Fun:=fun f=>match Nat.beq f 193 with|true=>some (aV Tryz.prog ah (fun _=>true) (fun f=>match Nat.beq f 167 with|true=>some aaK|false=>e f) az7 (fun _=>false) lf Tryz.f193)|false=>none
theorem as6(e:FuncId→Option Fun)(he:∀f F,e f=some F→aj Tryz.prog ah f F):∀f F,YS e f=some F→aj Tryz.prog ah f F:=ai (aI aH (ai aDf he) Tryz.func193 (by kernel_rfl) (by kernel_rfl)) (aA)
def aaH:Fun:=kQ (levels (fun _=>none) YS 40) 193
theorem aDd:aj Tryz.prog ah 193 aaH:=ji (iG aA as6 40) 193
def aB2:FuncId→Option Fun:=fun f=>match Nat.beq f 179 with|true=>some EU|false=>match Nat.beq f 193 with|true=>some aaH|false=>none
def aAA:aJ:=fun id=>none
def rF:Fun:=aV Tryz.prog ah (fun _=>true) aB2 aAA (fun _=>false) lf Tryz.f127
theorem xG:aj Tryz.prog ah 127 rF:=aI aH (ai Zj (ai aDd aA)) Tryz.func127 (by kernel_rfl) (by kernel_rfl)
def aBv:FuncId→Option Fun:=fun f=>match Nat.beq f 127 with|true=>some rF|false=>none
def azV:aJ:=fun id=>match Nat.beq id 2 with|true=>some ([0,0,2,6,14,30,62,7,255],[(0,.read 0),(1,.pure),(2,.pure),(7,.heavy),(3,.pure),(4,.read 1),(5,.pure),(6,.pure),(8,.pure)])|false=>none
def xK:Fun:=aV Tryz.prog ah (fun _=>true) aBv azV (fun _=>false) lf Tryz.f208
theorem ED:aj Tryz.prog ah 208 xK:=aI aH (ai xG aA) Tryz.func208 (by kernel_rfl) (by kernel_rfl)
def aBh:FuncId→Option Fun:=fun f=>match Nat.beq f 127 with|true=>some rF|false=>none
def azD:aJ:=fun id=>none
def aaf:Fun:=aV Tryz.prog ah (fun _=>true) aBh azD (fun _=>false) lf Tryz.f260
theorem aCL:aj Tryz.prog ah 260 aaf:=aI aH (ai xG aA) Tryz.func260 (by kernel_rfl) (by kernel_rfl)
def aA8:FuncId→Option Fun:=fun f=>match Nat.beq f 208 with|true=>some xK|false=>none
def azv:aJ:=fun id=>match Nat.beq id 2 with|true=>some ([0,1,0,0,8,24,56,120,248,504,59,1087,4095],[(0,.pure),(1,.read 0),(2,.pure),(3,.pure),(4,.pure),(5,.pure),(6,.pure),(7,.read 0),(8,.pure),(9,.pure),(10,.pure),(11,.pure),(12,.pure)])|false=>none
def Z7:Fun:=aV Tryz.prog ah (fun _=>true) aA8 azv (fun _=>false) lf Tryz.f278
theorem aCF:aj Tryz.prog ah 278 Z7:=aI aH (ai ED aA) Tryz.func278 (by kernel_rfl) (by kernel_rfl)
def aBC:FuncId→Option Fun:=fun f=>none
def az5:aJ:=fun id=>none
def aaF:Fun:=aV Tryz.prog ah (fun _=>true) aBC az5 (fun _=>false) lf Tryz.f195
theorem aDb:aj Tryz.prog ah 195 aaF:=aI aH aA Tryz.func195 (by kernel_rfl) (by kernel_rfl)
def aBD:FuncId→Option Fun:=fun f=>match Nat.beq f 195 with|true=>some aaF|false=>none
def az6:aJ:=fun id=>none
def aaG:Fun:=aV Tryz.prog ah (fun _=>true) aBD az6 (fun _=>false) lf Tryz.f194
theorem aDc:aj Tryz.prog ah 194 aaG:=aI aH (ai aDb aA) Tryz.func194 (by kernel_rfl) (by kernel_rfl)
def aB0:FuncId→Option Fun:=fun f=>match Nat.beq f 194 with|true=>some aaG|false=>none
def aAy:aJ:=fun id=>none
def aa1:Fun:=aV Tryz.prog ah (fun _=>true) aB0 aAy (fun _=>false) lf Tryz.f130
theorem aDw:aj Tryz.prog ah 130 aa1:=aI aH (ai aDc aA) Tryz.func130 (by kernel_rfl) (by kernel_rfl)
def aB1:FuncId→Option Fun:=fun f=>match Nat.beq f 130 with|true=>some aa1|false=>none
def aAz:aJ:=fun id=>none
def aa2:Fun:=aV Tryz.prog ah (fun _=>true) aB1 aAz (fun _=>false) lf Tryz.f129
theorem aDy:aj Tryz.prog ah 129 aa2:=aI aH (ai aDw aA) Tryz.func129 (by kernel_rfl) (by kernel_rfl)
def aAH:FuncId→Option Fun:=fun f=>none
def ay4:aJ:=fun id=>none
def Zz:Fun:=aV Tryz.prog ah (fun _=>true) aAH ay4 (fun _=>false) lf Tryz.f432
theorem aCh:aj Tryz.prog ah 432 Zz:=aI aH aA Tryz.func432 (by kernel_rfl) (by kernel_rfl)
def aBm:FuncId→Option Fun:=fun f=>none
def azJ:aJ:=fun id=>none
def aam:Fun:=aV Tryz.prog ah (fun _=>true) aBm azJ (fun _=>false) lf Tryz.f253
theorem aCS:aj Tryz.prog ah 253 aam:=aI aH aA Tryz.func253 (by kernel_rfl) (by kernel_rfl)
def aBq:FuncId→Option Fun:=fun f=>none
def azQ:aJ:=fun id=>none
def aav:Fun:=aV Tryz.prog ah (fun _=>true) aBq azQ (fun _=>false) lf Tryz.f215
theorem aC1:aj Tryz.prog ah 215 aav:=aI aH aA Tryz.func215 (by kernel_rfl) (by kernel_rfl)
def aBt:FuncId→Option Fun:=fun f=>match Nat.beq f 215 with|true=>some aav|false=>none
def azT:aJ:=fun id=>match Nat.beq id 0 with|true=>some ([0,0,2,2,2,2,0,66,64,322,320,1346,2,2,2,2,2,131070,262143,524287,1048575],[(6,.heavy),(8,.heavy),(10,.heavy),(0,.read 3),(1,.alloc),(2,.ins 1),(3,.ins 1),(4,.ins 1),(5,.ins 1),(7,.ins 1),(9,.ins 1),(11,.ins 1),(12,.ins 1),(13,.ins 1),(14,.ins 1),(15,.ins 1),(16,.ins 1),(17,.pure),(18,.pure),(19,.pure),(20,.heavy)])|false=>none
def aay:Fun:=aV Tryz.prog ah (fun _=>true) aBt azT (fun _=>false) lf Tryz.f210
theorem aC4:aj Tryz.prog ah 210 aay:=aI aH (ai aC1 aA) Tryz.func210 (by kernel_rfl) (by kernel_rfl)
def aA3:FuncId→Option Fun:=fun f=>none
def azq:aJ:=fun id=>match Nat.beq id 1 with|true=>some ([0,0,0,4,12,28,0,64,252,0,512,1536,3584,0,8192,32764,65533,131069,262141,524287,1048575,2097151],[(2,.pure),(3,.pure),(4,.pure),(5,.read 0),(6,.pure),(7,.alloc),(8,.heavy),(9,.pure),(10,.pure),(11,.pure),(12,.read 1),(13,.read 1),(14,.alloc),(15,.heavy),(0,.pure),(16,.pure),(17,.pure),(18,.heavy),(1,.pure),(19,.pure),(20,.pure),(21,.heavy)])|false=>none
def ZX:Fun:=aV Tryz.prog ah (fun _=>true) aA3 azq (fun _=>false) lf Tryz.f288
theorem aCB:aj Tryz.prog ah 288 ZX:=aI aH aA Tryz.func288 (by kernel_rfl) (by kernel_rfl)
def aA2:FuncId→Option Fun:=fun f=>none
def azp:aJ:=fun id=>match Nat.beq id 8 with|true=>some ([0,1,3,0,0,31],[(4,.heavy),(0,.pure),(1,.pure),(2,.pure),(3,.pure),(5,.heavy)])|false=>match Nat.beq id 22 with|true=>some ([0,1,3,7,15,0,32,96,31,0,1023,2047,4095,2047,10239,26623,59391],[(5,.pure),(6,.read 0),(7,.heavy),(0,.pure),(1,.pure),(2,.pure),(3,.pure),(4,.read 1),(8,.pure),(9,.alloc),(10,.heavy),(11,.pure),(13,.pure),(14,.pure),(15,.pure),(12,.heavy),(16,.heavy)])|false=>match Nat.beq id 23 with|true=>some ([0,1,3,0,8,0,63],[(0,.pure),(1,.pure),(2,.pure),(3,.pure),(4,.read 0),(5,.pure),(6,.heavy)])|false=>none
def ZW:Fun:=gI Tryz.prog ah (fun _=>true) aA2 azp lf Tryz.f289
theorem aCA:aj Tryz.prog ah 289 ZW:=eG aH aA Tryz.func289 (by kernel_rfl)
def xQ:Fun:=fM qy pR
theorem EI:aj Tryz.prog ah 151 xQ:=abf aHJ
def aGp:FuncId→Option Fun:=fun f=>match Nat.beq f 151 with|true=>some xQ|false=>none
def aFO:aJ:=fun id=>none
def aku:Fun:=aV Tryz.prog ah (fun _=>true) aGp aFO (fun _=>false) lf Tryz.f63
theorem aGY:aj Tryz.prog ah 63 aku:=aI aH (ai EI aA) Tryz.func63 (by kernel_rfl) (by kernel_rfl)
def EQ:Fun:=fM textS rG
theorem Zf:aj Tryz.prog ah 250 EQ:=ahd aHA
def aBl:FuncId→Option Fun:=fun f=>match Nat.beq f 151 with|true=>some xQ|false=>none
def azI:aJ:=fun id=>none
def aal:Fun:=aV Tryz.prog ah (fun _=>true) aBl azI (fun _=>false) lf Tryz.f254
theorem aCR:aj Tryz.prog ah 254 aal:=aI aH (ai EI aA) Tryz.func254 (by kernel_rfl) (by kernel_rfl)
def aAx:aJ:=fun id=>none
def az4:aJ:=fun id=>none
def az1:aJ:=fun id=>none
def azH:aJ:=fun id=>none
def Ew(e:FuncId→Option Fun):FuncId→Option Fun:=fun f=>match Nat.beq f 131 with|true=>some (aV Tryz.prog ah (fun _=>true) (fun f=>e f) aAx (fun _=>false) lf Tryz.f131)|false=>match Nat.beq f 196 with|true=>some (aV Tryz.prog ah (fun _=>true) (fun f=>match Nat.beq f 129 with|true=>some aa2|false=>match Nat.beq f 432 with|true=>some Zz|false=>e f) az4 (fun _=>false) lf Tryz.f196)|false=>match Nat.beq f 200 with|true=>some (aV Tryz.prog ah (fun _=>true) (fun f=>match Nat.beq f 151 with|true=>some xQ|false=>match Nat.beq f 253 with|true=>some aam|false=>match Nat.beq f 254 with|true=>some aal|false=>e f) az1 (fun _=>false) lf Tryz.f200)|false=>match Nat.beq f 255 with|true=>some (aV Tryz.prog ah (fun _=>true) (fun f=>e f) azH (fun _=>false) lf Tryz.f255)|false=>none
theorem Oq(e:FuncId→Option Fun)(he:∀f F,e f=some F→aj Tryz.prog ah f F):∀f F,Ew e f=some F→aj Tryz.prog ah f F:=ai (aI aH he Tryz.func131 (by kernel_rfl) (by kernel_rfl)) (ai (aI aH (ai aDy (ai aCh he)) Tryz.func196 (by kernel_rfl) (by kernel_rfl)) (ai (aI aH (ai EI (ai aCS (ai aCR he))) Tryz.func200 (by kernel_rfl) (by kernel_rfl)) (ai (aI aH he Tryz.func255 (by kernel_rfl) (by kernel_rfl)) (aA))))
def EZ:Fun:=kQ (levels (fun _=>none) Ew 40) 131
theorem Zn:aj Tryz.prog ah 131 EZ:=ji (iG aA Oq 40) 131
def aaC:Fun:=kQ (levels (fun _=>none) Ew 40) 200
theorem aC8:aj Tryz.prog ah 200 aaC:=ji (iG aA Oq 40) 200
def aBT:FuncId→Option Fun:=fun f=>match Nat.beq f 200 with|true=>some aaC|false=>none
def aAq:aJ:=fun id=>none
def aaY:Fun:=aV Tryz.prog ah (fun _=>true) aBT aAq (fun _=>false) lf Tryz.f140
theorem aDt:aj Tryz.prog ah 140 aaY:=aI aH (ai aC8 aA) Tryz.func140 (by kernel_rfl) (by kernel_rfl)
def aAM:FuncId→Option Fun:=fun f=>match Nat.beq f 131 with|true=>some EZ|false=>none
def ay9:aJ:=fun id=>none
def ZG:Fun:=aV Tryz.prog ah (fun _=>true) aAM ay9 (fun _=>false) lf Tryz.f372
theorem aCn:aj Tryz.prog ah 372 ZG:=aI aH (ai Zn aA) Tryz.func372 (by kernel_rfl) (by kernel_rfl)
def aAY:FuncId→Option Fun:=fun f=>match Nat.beq f 208 with|true=>some xK|false=>match Nat.beq f 372 with|true=>some ZG|false=>none
def azl:aJ:=fun id=>match Nat.beq id 2 with|true=>some ([0,0,0,4,12,28,60,28,252,508,1020,2044,1020,8188,16380,32764,16381,81919,262143],[(2,.pure),(3,.pure),(4,.pure),(5,.pure),(6,.read 0),(7,.pure),(8,.pure),(9,.pure),(10,.pure),(11,.read 0),(12,.pure),(13,.heavy),(0,.read 1),(16,.heavy),(1,.pure),(14,.pure),(15,.pure),(17,.pure),(18,.pure)])|false=>none
def EM:Fun:=aV Tryz.prog ah (fun _=>true) aAY azl (fun _=>false) lf Tryz.f299
theorem Y7:aj Tryz.prog ah 299 EM:=aI aH (ai ED (ai aCn aA)) Tryz.func299 (by kernel_rfl) (by kernel_rfl)
def aAU:FuncId→Option Fun:=fun f=>none
def azh:aJ:=fun id=>match Nat.beq id 1 with|true=>some ([0,1,3,7,0,16,48,112,240,511,1023,2047,4095,8191,16383,2047,34815,100351,231423,524287,1048575,2097151,4194303,8388607,16777215,33554431,67108863,8388607,142606335,411041791,947912703,2147483647,4294967295,8589934591,17179869183],[(0,.pure),(1,.pure),(2,.pure),(3,.read 0),(4,.pure),(5,.pure),(6,.pure),(7,.read 0),(8,.pure),(9,.pure),(10,.pure),(11,.pure),(12,.pure),(13,.pure),(14,.read 0),(15,.pure),(16,.pure),(17,.pure),(18,.read 0),(19,.pure),(20,.pure),(21,.pure),(22,.pure),(23,.pure),(24,.pure),(25,.pure),(26,.read 0),(27,.pure),(28,.pure),(29,.pure),(30,.read 0),(31,.pure),(32,.pure),(33,.pure),(34,.pure)])|false=>none
def ZQ:Fun:=aV Tryz.prog ah (fun _=>true) aAU azh (fun _=>false) lf Tryz.f344
theorem aCv:aj Tryz.prog ah 344 ZQ:=aI aH aA Tryz.func344 (by kernel_rfl) (by kernel_rfl)
def aBn:FuncId→Option Fun:=fun f=>match Nat.beq f 246 with|true=>some xJ|false=>match Nat.beq f 344 with|true=>some ZQ|false=>none
def azK:aJ:=fun id=>match Nat.beq id 4 with|true=>some ([0,1,3,7,0,31],[(0,.pure),(1,.pure),(2,.pure),(3,.read 0),(4,.pure),(5,.pure)])|false=>match Nat.beq id 6 with|true=>some ([0,1,0,4,12,28,0,64,192,448,1020,2044,4092,8191,16383],[(0,.pure),(1,.pure),(2,.pure),(3,.pure),(4,.pure),(5,.read 0),(6,.pure),(7,.pure),(8,.pure),(9,.read 0),(10,.pure),(11,.pure),(12,.pure),(13,.pure),(14,.pure)])|false=>none
def aan:Fun:=aV Tryz.prog ah (fun _=>true) aBn azK (fun _=>false) lf Tryz.f252
theorem aCT:aj Tryz.prog ah 252 aan:=aI aH (ai EC (ai aCv aA)) Tryz.func252 (by kernel_rfl) (by kernel_rfl)
def az8:aJ:=fun id=>match Nat.beq id 1 with|true=>some ([0,1,3,7,0,16,48,112,240,511],[(0,.read 0),(1,.pure),(2,.pure),(3,.read 0),(4,.read 0),(5,.pure),(6,.pure),(7,.read 0),(8,.pure),(9,.pure)])|false=>match Nat.beq id 3 with|true=>some ([0,1,3,7,0,16,48,112,255,511],[(0,.read 0),(1,.pure),(2,.pure),(3,.read 0),(4,.read 0),(5,.pure),(6,.pure),(7,.read 0),(8,.pure),(9,.pure)])|false=>none
def azN:aJ:=fun id=>none
def azM:aJ:=fun id=>match Nat.beq id 0 with|true=>some ([0,1,0,0,8,28,3,0,255,511,1023,511,2559],[(2,.read 0),(3,.read 0),(4,.pure),(5,.heavy),(0,.pure),(1,.read 1),(6,.pure),(7,.alloc),(8,.heavy),(9,.pure),(11,.pure),(10,.heavy),(12,.heavy)])|false=>none
def azL:aJ:=fun id=>match Nat.beq id 7 with|true=>some ([0,1,0,0,8,28,3,0,255,511,1023,511,2559],[(2,.read 0),(3,.read 0),(4,.pure),(5,.heavy),(0,.pure),(1,.read 1),(6,.pure),(7,.alloc),(8,.heavy),(9,.pure),(11,.pure),(10,.heavy),(12,.heavy)])|false=>none
def YT(e:FuncId→Option Fun):FuncId→Option Fun:=fun f=>match Nat.beq f 191 with|true=>some (aV Tryz.prog ah (fun _=>true) (fun f=>match Nat.beq f 246 with|true=>some xJ|false=>match Nat.beq f 250 with|true=>some EQ|false=>match Nat.beq f 252 with|true=>some aan|false=>e f) az8 (fun _=>false) lf Tryz.f191)|false=>match Nat.beq f 247 with|true=>some (aV Tryz.prog ah (fun _=>true) (fun f=>match Nat.beq f 190 with|true=>some xO|false=>match Nat.beq f 246 with|true=>some xJ|false=>match Nat.beq f 251 with|true=>some EP|false=>e f) azN (fun _=>false) lf Tryz.f247)|false=>match Nat.beq f 248 with|true=>some (gI Tryz.prog ah (fun _=>true) (fun f=>e f) azM lf Tryz.f248)|false=>match Nat.beq f 249 with|true=>some (gI Tryz.prog ah (fun _=>true) (fun f=>match Nat.beq f 101 with|true=>some aa7|false=>match Nat.beq f 190 with|true=>some xO|false=>match Nat.beq f 250 with|true=>some EQ|false=>match Nat.beq f 251 with|true=>some EP|false=>e f) azL lf Tryz.f249)|false=>none
theorem as7(e:FuncId→Option Fun)(he:∀f F,e f=some F→aj Tryz.prog ah f F):∀f F,YT e f=some F→aj Tryz.prog ah f F:=ai (aI aH (ai EC (ai Zf (ai aCT he))) Tryz.func191 (by kernel_rfl) (by kernel_rfl)) (ai (aI aH (ai EG (ai EC (ai Ze he))) Tryz.func247 (by kernel_rfl) (by kernel_rfl)) (ai (eG aH he Tryz.func248 (by kernel_rfl)) (ai (eG aH (ai aDD (ai EG (ai Zf (ai Ze he)))) Tryz.func249 (by kernel_rfl)) (aA))))
def aaI:Fun:=kQ (levels (fun _=>none) YT 40) 191
theorem aDe:aj Tryz.prog ah 191 aaI:=ji (iG aA as7 40) 191
def aB3:FuncId→Option Fun:=fun f=>match Nat.beq f 190 with|true=>some xO|false=>match Nat.beq f 191 with|true=>some aaI|false=>none
def aAB:aJ:=fun id=>match Nat.beq id 8 with|true=>some ([0,1,3,7,0,16,48,112,240,511],[(0,.read 0),(1,.pure),(2,.pure),(3,.read 0),(4,.read 0),(5,.pure),(6,.pure),(7,.read 0),(8,.pure),(9,.pure)])|false=>none
def aB9:FuncId→Option Fun:=fun f=>match Nat.beq f 189 with|true=>some aaJ|false=>none
def aa3:Fun:=H7 Tryz.prog ah (fun _=>true) aB3 aB9 aAB lf Tryz.f126
theorem aDz:aj Tryz.prog ah 126 aa3:=KC aH (ai EG (ai aDe aA)) (nS aDG Dp) Tryz.func126 (by kernel_rfl)
def aGy:FuncId→Option Fun:=fun f=>match Nat.beq f 126 with|true=>some aa3|false=>match Nat.beq f 127 with|true=>some rF|false=>match Nat.beq f 131 with|true=>some EZ|false=>none
def aFX:aJ:=fun id=>match Nat.beq id 23 with|true=>some ([0,0,2,6,14,30,0,64,192,448,0,1024,3072,7168,15360,32766,65534,131071,262143],[(0,.pure),(1,.pure),(2,.read 0),(3,.pure),(4,.pure),(5,.read 0),(6,.pure),(7,.read 0),(8,.pure),(9,.read 0),(10,.pure),(11,.read 0),(12,.pure),(13,.pure),(14,.read 0),(15,.pure),(16,.alloc),(17,.heavy),(18,.pure)])|false=>none
def dA:Fun:=aV Tryz.prog ah (fun _=>true) aGy aFX (fun _=>false) lf Tryz.f50
theorem dH:aj Tryz.prog ah 50 dA:=aI aH (ai aDz (ai xG (ai Zn aA))) Tryz.func50 (by kernel_rfl) (by kernel_rfl)
def ZP:Fun:=Hq
theorem aCu:aj Tryz.prog ah 345 ZP:=II Tryz.func345 (by kernel_rfl) (by kernel_rfl) (by kernel_rfl) (by kernel_rfl)
def aBk:FuncId→Option Fun:=fun f=>match Nat.beq f 345 with|true=>some ZP|false=>none
def azG:aJ:=fun id=>none
def aak:Fun:=aV Tryz.prog ah (fun _=>true) aBk azG (fun _=>false) lf Tryz.f256
theorem aCQ:aj Tryz.prog ah 256 aak:=aI aH (ai aCu aA) Tryz.func256 (by kernel_rfl) (by kernel_rfl)
def aBz:FuncId→Option Fun:=fun f=>match Nat.beq f 256 with|true=>some aak|false=>none
def az0:aJ:=fun id=>none
def aaB:Fun:=aV Tryz.prog ah (fun _=>true) aBz az0 (fun _=>false) lf Tryz.f201
theorem aC7:aj Tryz.prog ah 201 aaB:=aI aH (ai aCQ aA) Tryz.func201 (by kernel_rfl) (by kernel_rfl)
def aai:Fun:=fM Io jg
theorem aCO:aj Tryz.prog ah 258 aai:=abe al9
def ER:Fun:=fM Ik rJ
theorem Zg:aj Tryz.prog ah 203 ER:=aa9 aHD
def aAS:FuncId→Option Fun:=fun f=>none
def azf:aJ:=fun id=>none
def ZN:Fun:=aV Tryz.prog ah (fun _=>true) aAS azf (fun _=>false) lf Tryz.f347
theorem aCs:aj Tryz.prog ah 347 ZN:=aI aH aA Tryz.func347 (by kernel_rfl) (by kernel_rfl)
def aBi:FuncId→Option Fun:=fun f=>match Nat.beq f 347 with|true=>some ZN|false=>none
def azE:aJ:=fun id=>none
def aah:Fun:=aV Tryz.prog ah (fun _=>true) aBi azE (fun _=>false) lf Tryz.f259
theorem aCN:aj Tryz.prog ah 259 aah:=aI aH (ai aCs aA) Tryz.func259 (by kernel_rfl) (by kernel_rfl)
def aBw:FuncId→Option Fun:=fun f=>match Nat.beq f 259 with|true=>some aah|false=>none
def azW:aJ:=fun id=>none
def xM:Fun:=aV Tryz.prog ah (fun _=>true) aBw azW (fun _=>false) lf Tryz.f206
theorem EF:aj Tryz.prog ah 206 xM:=aI aH (ai aCN aA) Tryz.func206 (by kernel_rfl) (by kernel_rfl)
def aBP:FuncId→Option Fun:=fun f=>match Nat.beq f 127 with|true=>some rF|false=>match Nat.beq f 134 with|true=>some lJ|false=>match Nat.beq f 206 with|true=>some xM|false=>none
def aAl:aJ:=fun id=>match Nat.beq id 14 with|true=>some ([0,1,0,0,8,0,0,0,71,327,1023,2047],[(0,.pure),(1,.read 0),(2,.pure),(6,.pure),(8,.pure),(9,.heavy),(3,.pure),(4,.read 1),(5,.pure),(7,.read 1),(10,.pure),(11,.heavy)])|false=>none
def aaV:Fun:=aV Tryz.prog ah (fun _=>true) aBP aAl (fun _=>false) lf Tryz.f145
theorem aDq:aj Tryz.prog ah 145 aaV:=aI aH (ai xG (ai mV (ai EF aA))) Tryz.func145 (by kernel_rfl) (by kernel_rfl)
def aAN:FuncId→Option Fun:=fun f=>match Nat.beq f 206 with|true=>some xM|false=>none
def aza:aJ:=fun id=>match Nat.beq id 2 with|true=>some ([0,1,3,0,15],[(0,.pure),(1,.read 0),(2,.pure),(3,.pure),(4,.pure)])|false=>none
def ZH:Fun:=aV Tryz.prog ah (fun _=>true) aAN aza (fun _=>false) lf Tryz.f368
theorem aCo:aj Tryz.prog ah 368 ZH:=aI aH (ai EF aA) Tryz.func368 (by kernel_rfl) (by kernel_rfl)
def aA1:FuncId→Option Fun:=fun f=>match Nat.beq f 368 with|true=>some ZH|false=>none
def azo:aJ:=fun id=>match Nat.beq id 8 with|true=>some ([0,1,0,4,12,3,63],[(0,.pure),(1,.read 0),(2,.pure),(3,.read 0),(4,.pure),(5,.pure),(6,.pure)])|false=>none
def ZV:Fun:=aV Tryz.prog ah (fun _=>true) aA1 azo (fun _=>false) lf Tryz.f293
theorem aCz:aj Tryz.prog ah 293 ZV:=aI aH (ai aCo aA) Tryz.func293 (by kernel_rfl) (by kernel_rfl)
def ZM:Fun:=uf .u32
theorem aCr:aj Tryz.prog ah 352 ZM:=yh Tryz.func352 (by kernel_rfl) (by kernel_rfl) (by kernel_rfl) .u32 (by kernel_rfl)
def aBg:FuncId→Option Fun:=fun f=>match Nat.beq f 352 with|true=>some ZM|false=>none
def azC:aJ:=fun id=>none
def EO:Fun:=aV Tryz.prog ah (fun _=>true) aBg azC (fun _=>false) lf Tryz.f263
theorem Y9:aj Tryz.prog ah 263 EO:=aI aH (ai aCr aA) Tryz.func263 (by kernel_rfl) (by kernel_rfl)
def aAX:FuncId→Option Fun:=fun f=>none
def azk:aJ:=fun id=>none
def EL:Fun:=aV Tryz.prog ah (fun _=>true) aAX azk (fun _=>false) lf Tryz.f300
theorem Y6:aj Tryz.prog ah 300 EL:=aI aH aA Tryz.func300 (by kernel_rfl) (by kernel_rfl)
def aBX:FuncId→Option Fun:=fun f=>none
def aAu:aJ:=fun id=>none
def aa0:Fun:=aV Tryz.prog ah (fun _=>true) aBX aAu (fun _=>false) lf Tryz.f136
theorem aDv:aj Tryz.prog ah 136 aa0:=aI aH aA Tryz.func136 (by kernel_rfl) (by kernel_rfl)
def aBb:FuncId→Option Fun:=fun f=>none
def azy:aJ:=fun id=>none
def Z9:Fun:=aV Tryz.prog ah (fun _=>true) aBb azy (fun _=>false) lf Tryz.f267
theorem aCH:aj Tryz.prog ah 267 Z9:=aI aH aA Tryz.func267 (by kernel_rfl) (by kernel_rfl)
def aAV:FuncId→Option Fun:=fun f=>none
def azi:aJ:=fun id=>none
def ZR:Fun:=aV Tryz.prog ah (fun _=>true) aAV azi (fun _=>false) lf Tryz.f302
theorem aCw:aj Tryz.prog ah 302 ZR:=aI aH aA Tryz.func302 (by kernel_rfl) (by kernel_rfl)
def aA0:FuncId→Option Fun:=fun f=>none
def azn:aJ:=fun id=>none
def ZU:Fun:=aV Tryz.prog ah (fun _=>true) aA0 azn (fun _=>false) lf Tryz.f294
theorem aCy:aj Tryz.prog ah 294 ZU:=aI aH aA Tryz.func294 (by kernel_rfl) (by kernel_rfl)
def aAL:FuncId→Option Fun:=fun f=>none
def ay8:aJ:=fun id=>none
def ZF:Fun:=aV Tryz.prog ah (fun _=>true) aAL ay8 (fun _=>false) lf Tryz.f400
theorem aCm:aj Tryz.prog ah 400 ZF:=aI aH aA Tryz.func400 (by kernel_rfl) (by kernel_rfl)
def aAT:FuncId→Option Fun:=fun f=>match Nat.beq f 400 with|true=>some ZF|false=>none
def azg:aJ:=fun id=>none
def ZO:Fun:=aV Tryz.prog ah (fun _=>true) aAT azg (fun _=>false) lf Tryz.f346
theorem aCt:aj Tryz.prog ah 346 ZO:=aI aH (ai aCm aA) Tryz.func346 (by kernel_rfl) (by kernel_rfl)
def aBj:FuncId→Option Fun:=fun f=>match Nat.beq f 346 with|true=>some ZO|false=>none
def azF:aJ:=fun id=>none
def aaj:Fun:=aV Tryz.prog ah (fun _=>true) aBj azF (fun _=>false) lf Tryz.f257
theorem aCP:aj Tryz.prog ah 257 aaj:=aI aH (ai aCt aA) Tryz.func257 (by kernel_rfl) (by kernel_rfl)
def aBy:FuncId→Option Fun:=fun f=>match Nat.beq f 257 with|true=>some aaj|false=>none
def azZ:aJ:=fun id=>none
def ES:Fun:=aV Tryz.prog ah (fun _=>true) aBy azZ (fun _=>false) lf Tryz.f202
theorem Zh:aj Tryz.prog ah 202 ES:=aI aH (ai aCP aA) Tryz.func202 (by kernel_rfl) (by kernel_rfl)
def aAp:aJ:=fun id=>match Nat.beq id 11 with|true=>some ([0,1,3,0,8,24,63],[(3,.pure),(4,.read 0),(5,.heavy),(0,.pure),(1,.pure),(2,.pure),(6,.heavy)])|false=>none
def azY:aJ:=fun id=>none
def YV(e:FuncId→Option Fun):FuncId→Option Fun:=fun f=>match Nat.beq f 141 with|true=>some (aV Tryz.prog ah (fun _=>true) (fun f=>match Nat.beq f 142 with|true=>some EW|false=>match Nat.beq f 201 with|true=>some aaB|false=>match Nat.beq f 202 with|true=>some ES|false=>match Nat.beq f 203 with|true=>some ER|false=>e f) aAp (fun _=>false) lf Tryz.f141)|false=>match Nat.beq f 204 with|true=>some (aV Tryz.prog ah (fun _=>true) (fun f=>match Nat.beq f 203 with|true=>some ER|false=>match Nat.beq f 258 with|true=>some aai|false=>e f) azY (fun _=>false) lf Tryz.f204)|false=>none
theorem as9(e:FuncId→Option Fun)(he:∀f F,e f=some F→aj Tryz.prog ah f F):∀f F,YV e f=some F→aj Tryz.prog ah f F:=ai (aI aH (ai Zk (ai aC7 (ai Zh (ai Zg he)))) Tryz.func141 (by kernel_rfl) (by kernel_rfl)) (ai (aI aH (ai Zg (ai aCO he)) Tryz.func204 (by kernel_rfl) (by kernel_rfl)) (aA))
def aaX:Fun:=kQ (levels (fun _=>none) YV 40) 141
theorem aDs:aj Tryz.prog ah 141 aaX:=ji (iG aA as9 40) 141
def aGv:FuncId→Option Fun:=fun f=>match Nat.beq f 140 with|true=>some aaY|false=>match Nat.beq f 141 with|true=>some aaX|false=>match Nat.beq f 142 with|true=>some EW|false=>match Nat.beq f 143 with|true=>some aaW|false=>none
def aFU:aJ:=fun id=>none
def dn:Fun:=aV Tryz.prog ah (fun _=>true) aGv aFU (fun _=>false) lf Tryz.f54
theorem dw:aj Tryz.prog ah 54 dn:=aI aH (ai aDt (ai aDs (ai Zk (ai aDr aA)))) Tryz.func54 (by kernel_rfl) (by kernel_rfl)
def aA6:FuncId→Option Fun:=fun f=>match Nat.beq f 202 with|true=>some ES|false=>none
def azt:aJ:=fun id=>none
def EN:Fun:=aV Tryz.prog ah (fun _=>true) aA6 azt (fun _=>false) lf Tryz.f283
theorem Y8:aj Tryz.prog ah 283 EN:=aI aH (ai Zh aA) Tryz.func283 (by kernel_rfl) (by kernel_rfl)
def aBa:FuncId→Option Fun:=fun f=>match Nat.beq f 135 with|true=>some lI|false=>match Nat.beq f 283 with|true=>some EN|false=>none
def azx:aJ:=fun id=>none
def xI:Fun:=aV Tryz.prog ah (fun _=>true) aBa azx (fun _=>false) lf Tryz.f268
theorem Ez:aj Tryz.prog ah 268 xI:=aI aH (ai mQ (ai Y8 aA)) Tryz.func268 (by kernel_rfl) (by kernel_rfl)
def aBd:FuncId→Option Fun:=fun f=>match Nat.beq f 134 with|true=>some lJ|false=>match Nat.beq f 135 with|true=>some lI|false=>match Nat.beq f 136 with|true=>some aa0|false=>match Nat.beq f 180 with|true=>some ET|false=>match Nat.beq f 267 with|true=>some Z9|false=>match Nat.beq f 268 with|true=>some xI|false=>none
def azz:aJ:=fun id=>match Nat.beq id 1 with|true=>some ([0,0,0,6,15,31,0,127],[(1,.read 0),(2,.pure),(3,.heavy),(0,.read 1),(4,.pure),(5,.read 0),(6,.alloc),(7,.heavy)])|false=>match Nat.beq id 14 with|true=>some ([0,0,3,7,0,16,63,127,0,255,0,1791,3839,0,16127,32767,65535,131071],[(0,.heavy),(1,.pure),(2,.heavy),(3,.heavy),(4,.pure),(5,.read 3),(6,.heavy),(7,.heavy),(9,.heavy),(10,.pure),(11,.heavy),(12,.heavy),(13,.pure),(14,.heavy),(8,.read 9),(15,.alloc),(16,.heavy),(17,.heavy)])|false=>none
def aac:Fun:=aV Tryz.prog ah (fun _=>true) aBd azz (fun _=>false) lf Tryz.f266
theorem aCI:aj Tryz.prog ah 266 aac:=aI aH (ai mV (ai mQ (ai aDv (ai Zi (ai aCH (ai Ez aA)))))) Tryz.func266 (by kernel_rfl) (by kernel_rfl)
def aA9:FuncId→Option Fun:=fun f=>match Nat.beq f 144 with|true=>some rE|false=>match Nat.beq f 268 with|true=>some xI|false=>none
def azw:aJ:=fun id=>match Nat.beq id 5 with|true=>some ([0,1,0,0,12,28,63,127,255],[(2,.pure),(3,.pure),(4,.heavy),(0,.pure),(1,.read 1),(5,.alloc),(6,.heavy),(7,.pure),(8,.heavy)])|false=>none
def Z8:Fun:=aV Tryz.prog ah (fun _=>true) aA9 azw (fun _=>false) lf Tryz.f274
theorem aCG:aj Tryz.prog ah 274 Z8:=aI aH (ai xE (ai Ez aA)) Tryz.func274 (by kernel_rfl) (by kernel_rfl)
def aAW:FuncId→Option Fun:=fun f=>match Nat.beq f 16 with|true=>some rC|false=>match Nat.beq f 283 with|true=>some EN|false=>none
def azj:aJ:=fun id=>none
def xH:Fun:=aV Tryz.prog ah (fun _=>true) aAW azj (fun _=>false) lf Tryz.f301
theorem Ey:aj Tryz.prog ah 301 xH:=aI aH (ai OL (ai Y8 aA)) Tryz.func301 (by kernel_rfl) (by kernel_rfl)
def aA5:FuncId→Option Fun:=fun f=>match Nat.beq f 144 with|true=>some rE|false=>match Nat.beq f 278 with|true=>some Z7|false=>match Nat.beq f 299 with|true=>some EM|false=>match Nat.beq f 300 with|true=>some EL|false=>match Nat.beq f 301 with|true=>some xH|false=>match Nat.beq f 302 with|true=>some ZR|false=>none
def azs:aJ:=fun id=>match Nat.beq id 10 with|true=>some ([0,1,3,0,8,24,63,0,128,384,1023,0,2048,6144,14336,30720,63488,131071,262143],[(11,.pure),(12,.pure),(13,.pure),(14,.read 0),(15,.heavy),(16,.heavy),(0,.pure),(1,.read 2),(2,.pure),(3,.pure),(4,.read 2),(5,.pure),(6,.pure),(7,.pure),(8,.read 2),(9,.pure),(10,.pure),(17,.pure),(18,.pure)])|false=>match Nat.beq id 14 with|true=>some ([0,0,0,0,0,16,0,48,176,432,944,1968,4016,8191,16383,32767,65535],[(4,.pure),(5,.heavy),(7,.heavy),(8,.heavy),(9,.heavy),(10,.heavy),(11,.heavy),(12,.heavy),(0,.pure),(1,.read 7),(2,.read 7),(3,.read 7),(6,.alloc),(13,.pure),(14,.alloc),(15,.pure),(16,.pure)])|false=>none
def Z4:Fun:=aV Tryz.prog ah (fun _=>true) aA5 azs (fun _=>false) lf Tryz.f285
theorem aCD:aj Tryz.prog ah 285 Z4:=aI aH (ai xE (ai aCF (ai Y7 (ai Y6 (ai Ey (ai aCw aA)))))) Tryz.func285 (by kernel_rfl) (by kernel_rfl)
def aAZ:FuncId→Option Fun:=fun f=>match Nat.beq f 134 with|true=>some lJ|false=>match Nat.beq f 135 with|true=>some lI|false=>match Nat.beq f 301 with|true=>some xH|false=>none
def azm:aJ:=fun id=>match Nat.beq id 1 with|true=>some ([0,1,3,0,8,24,56,127,255,0,512,1536,3584,8191,16383,32767,0,65536,196608,458752,65535,0,2097152,6291456,14680064,1114111,0,67108864,201326592,469762048,34668543,0,2147483648,6442450944,15032385536,1108410367,0,68719476736,206158430208,481036337152,35468148735,0,2199023255552,6597069766656,15393162788864,35184372088831,70368744177663,140737488355327],[(0,.heavy),(1,.heavy),(2,.heavy),(3,.pure),(4,.pure),(5,.pure),(6,.read 3),(7,.heavy),(8,.heavy),(9,.pure),(10,.pure),(11,.pure),(12,.read 5),(13,.heavy),(14,.heavy),(15,.heavy),(20,.heavy),(25,.heavy),(30,.heavy),(35,.heavy),(40,.heavy),(16,.pure),(17,.pure),(18,.pure),(19,.read 13),(21,.pure),(22,.pure),(23,.pure),(24,.read 13),(26,.pure),(27,.pure),(28,.pure),(29,.read 13),(31,.pure),(32,.pure),(33,.pure),(34,.read 13),(36,.pure),(37,.pure),(38,.pure),(39,.read 13),(41,.pure),(42,.pure),(43,.pure),(44,.read 13),(45,.alloc),(46,.heavy),(47,.heavy)])|false=>none
def ZT:Fun:=aV Tryz.prog ah (fun _=>true) aAZ azm (fun _=>false) lf Tryz.f295
theorem aCx:aj Tryz.prog ah 295 ZT:=aI aH (ai mV (ai mQ (ai Ey aA))) Tryz.func295 (by kernel_rfl) (by kernel_rfl)
def ZB:Fun:=qh
theorem aCj:aj Tryz.prog ah 409 ZB:=vW Tryz.func409 (by kernel_rfl) (by kernel_rfl) (by kernel_rfl) (by kernel_rfl)
def aAI:FuncId→Option Fun:=fun f=>none
def ay5:aJ:=fun id=>none
def ZA:Fun:=aV Tryz.prog ah (fun _=>true) aAI ay5 (fun _=>false) lf Tryz.f410
theorem aCi:aj Tryz.prog ah 410 ZA:=aI aH aA Tryz.func410 (by kernel_rfl) (by kernel_rfl)
def aAP:FuncId→Option Fun:=fun f=>match Nat.beq f 409 with|true=>some ZB|false=>match Nat.beq f 410 with|true=>some ZA|false=>none
def azc:aJ:=fun id=>match Nat.beq id 0 with|true=>some ([0,1,3,0,8,31],[(3,.pure),(4,.heavy),(0,.pure),(1,.pure),(2,.pure),(5,.heavy)])|false=>none
def ZJ:Fun:=gI Tryz.prog ah (fun _=>true) aAP azc lf Tryz.f355
theorem aDE:iQ Tryz.prog ah 355 ZJ:=(F6 aH (ai aCj (ai aCi aA)) Tryz.func355 (by kernel_rfl)).deferred
def aA7:FuncId→Option Fun:=fun f=>none
def azu:aJ:=fun id=>none
def Z5:Fun:=aV Tryz.prog ah (fun _=>true) aA7 azu (fun _=>false) lf Tryz.f280
theorem aCE:aj Tryz.prog ah 280 Z5:=aI aH aA Tryz.func280 (by kernel_rfl) (by kernel_rfl)
def aAO:FuncId→Option Fun:=fun f=>match Nat.beq f 206 with|true=>some xM|false=>match Nat.beq f 280 with|true=>some Z5|false=>none
def azb:aJ:=fun id=>none
def ZI:Fun:=aV Tryz.prog ah (fun _=>true) aAO azb (fun _=>false) lf Tryz.f356
theorem aCp:aj Tryz.prog ah 356 ZI:=aI aH (ai EF (ai aCE aA)) Tryz.func356 (by kernel_rfl) (by kernel_rfl)
def aBe:FuncId→Option Fun:=fun f=>match Nat.beq f 110 with|true=>some aa6|false=>match Nat.beq f 134 with|true=>some lJ|false=>match Nat.beq f 135 with|true=>some lI|false=>match Nat.beq f 144 with|true=>some rE|false=>match Nat.beq f 266 with|true=>some aac|false=>match Nat.beq f 274 with|true=>some Z8|false=>match Nat.beq f 299 with|true=>some EM|false=>match Nat.beq f 300 with|true=>some EL|false=>match Nat.beq f 301 with|true=>some xH|false=>match Nat.beq f 356 with|true=>some ZI|false=>none
def azA:aJ:=fun id=>match Nat.beq id 6 with|true=>some ([0,1,3,0,8,24,56,120,248,511],[(3,.pure),(4,.pure),(5,.pure),(6,.read 0),(7,.heavy),(8,.heavy),(0,.pure),(1,.read 2),(2,.pure),(9,.pure)])|false=>match Nat.beq id 17 with|true=>some ([0,1,0,0,12,28,63,127,255],[(2,.pure),(3,.pure),(4,.heavy),(0,.pure),(1,.read 1),(5,.alloc),(6,.heavy),(7,.pure),(8,.heavy)])|false=>match Nat.beq id 18 with|true=>some ([0,1,0,4,12,28,63,127,255],[(2,.pure),(3,.read 0),(4,.heavy),(0,.pure),(1,.read 1),(5,.alloc),(6,.heavy),(7,.pure),(8,.heavy)])|false=>match Nat.beq id 20 with|true=>some ([0,1,3,0,15,31,63,0,127,0,1023,2047,4095,8191],[(0,.heavy),(1,.heavy),(2,.heavy),(3,.pure),(4,.heavy),(5,.heavy),(6,.heavy),(8,.heavy),(7,.read 7),(9,.read 7),(10,.alloc),(11,.heavy),(12,.heavy),(13,.pure)])|false=>none
def aad:Fun:=aV Tryz.prog ah (fun _=>true) aBe azA (fun _=>false) lf Tryz.f265
theorem aCJ:aj Tryz.prog ah 265 aad:=aI aH (ai aDC (ai mV (ai mQ (ai xE (ai aCI (ai aCG (ai Y7 (ai Y6 (ai Ey (ai aCp aA)))))))))) Tryz.func265 (by kernel_rfl) (by kernel_rfl)
def aBr:FuncId→Option Fun:=fun f=>match Nat.beq f 137 with|true=>some EY|false=>match Nat.beq f 138 with|true=>some EX|false=>match Nat.beq f 265 with|true=>some aad|false=>none
def azR:aJ:=fun id=>match Nat.beq id 1 with|true=>some ([0,1,3,7,15,0,32,96,224,511,0,0,4095,8191],[(0,.pure),(1,.pure),(2,.pure),(3,.read 0),(4,.heavy),(5,.pure),(6,.pure),(7,.pure),(8,.read 1),(9,.heavy),(10,.alloc),(11,.alloc),(12,.heavy),(13,.heavy)])|false=>none
def aaw:Fun:=aV Tryz.prog ah (fun _=>true) aBr azR (fun _=>false) lf Tryz.f212
theorem aC2:aj Tryz.prog ah 212 aaw:=aI aH (ai Zm (ai Zl (ai aCJ aA))) Tryz.func212 (by kernel_rfl) (by kernel_rfl)
def EK:Fun:=Aj
theorem Y5:aj Tryz.prog ah 461 EK:=FV Tryz.func461 (by kernel_rfl) (by kernel_rfl) (by kernel_rfl) .disable (by kernel_rfl)
def Zy:Fun:=Ep .i32
theorem aCg:aj Tryz.prog ah 462 Zy:=agC Tryz.func462 (by kernel_rfl) (by kernel_rfl) (by kernel_rfl) .i32 (by kernel_rfl)
def EJ:Fun:=Aj
theorem Y4:aj Tryz.prog ah 463 EJ:=FV Tryz.func463 (by kernel_rfl) (by kernel_rfl) (by kernel_rfl) .enable (by kernel_rfl)
def Zx:Fun:=Ai
theorem aCf:aj Tryz.prog ah 464 Zx:=FU Tryz.func464 (by kernel_rfl) (by kernel_rfl) (by kernel_rfl) .acquire (by kernel_rfl)
def aAK:FuncId→Option Fun:=fun f=>match Nat.beq f 461 with|true=>some EK|false=>match Nat.beq f 462 with|true=>some Zy|false=>match Nat.beq f 463 with|true=>some EJ|false=>match Nat.beq f 464 with|true=>some Zx|false=>none
def ay7:aJ:=fun id=>none
def ZE:Fun:=aV Tryz.prog ah (fun _=>true) aAK ay7 (fun _=>false) lf Tryz.f407
theorem aCl:aj Tryz.prog ah 407 ZE:=aI aH (ai Y5 (ai aCg (ai Y4 (ai aCf aA)))) Tryz.func407 (by kernel_rfl) (by kernel_rfl)
def aAR:FuncId→Option Fun:=fun f=>match Nat.beq f 407 with|true=>some ZE|false=>none
def aze:aJ:=fun id=>none
def ZL:Fun:=aV Tryz.prog ah (fun _=>true) aAR aze (fun _=>false) lf Tryz.f353
theorem aCq:aj Tryz.prog ah 353 ZL:=aI aH (ai aCl aA) Tryz.func353 (by kernel_rfl) (by kernel_rfl)
def Zw:Fun:=Ai
theorem aCe:aj Tryz.prog ah 466 Zw:=FU Tryz.func466 (by kernel_rfl) (by kernel_rfl) (by kernel_rfl) .releaseMerge (by kernel_rfl)
def Zu:Fun:=xB .i32
theorem aCd:aj Tryz.prog ah 467 Zu:=Dz Tryz.func467 (by kernel_rfl) (by kernel_rfl) (by kernel_rfl) .i32 (by kernel_rfl)
def aAJ:FuncId→Option Fun:=fun f=>match Nat.beq f 461 with|true=>some EK|false=>match Nat.beq f 463 with|true=>some EJ|false=>match Nat.beq f 466 with|true=>some Zw|false=>match Nat.beq f 467 with|true=>some Zu|false=>none
def ay6:aJ:=fun id=>none
def ZC:Fun:=aV Tryz.prog ah (fun _=>true) aAJ ay6 (fun _=>false) lf Tryz.f408
theorem aCk:aj Tryz.prog ah 408 ZC:=aI aH (ai Y5 (ai Y4 (ai aCe (ai aCd aA)))) Tryz.func408 (by kernel_rfl) (by kernel_rfl)
def aAQ:FuncId→Option Fun:=fun f=>match Nat.beq f 408 with|true=>some ZC|false=>none
def azd:aJ:=fun id=>none
def ZK:Fun:=gI Tryz.prog ah (fun _=>true) aAQ azd lf Tryz.f354
theorem aDF:iQ Tryz.prog ah 354 ZK:=(F6 aH (ai aCk aA) Tryz.func354 (by kernel_rfl)).deferred
def aBf:FuncId→Option Fun:=fun f=>match Nat.beq f 210 with|true=>some aay|false=>match Nat.beq f 263 with|true=>some EO|false=>match Nat.beq f 353 with|true=>some ZL|false=>none
def azB:aJ:=fun id=>none
def aB8:FuncId→Option Fun:=fun f=>match Nat.beq f 354 with|true=>some ZK|false=>match Nat.beq f 355 with|true=>some ZJ|false=>none
def aae:Fun:=H7 Tryz.prog ah (fun _=>true) aBf aB8 azB lf Tryz.f264
theorem aCK:aj Tryz.prog ah 264 aae:=KC aH (ai aC4 (ai Y9 (ai aCq aA))) (nS aDF (nS aDE Dp)) Tryz.func264 (by kernel_rfl)
def aBu:FuncId→Option Fun:=fun f=>match Nat.beq f 263 with|true=>some EO|false=>match Nat.beq f 264 with|true=>some aae|false=>none
def azU:aJ:=fun id=>none
def aaz:Fun:=aV Tryz.prog ah (fun _=>true) aBu azU (fun _=>false) lf Tryz.f209
theorem aC5:aj Tryz.prog ah 209 aaz:=aI aH (ai Y9 (ai aCK aA)) Tryz.func209 (by kernel_rfl) (by kernel_rfl)
def aBN:FuncId→Option Fun:=fun f=>match Nat.beq f 209 with|true=>some aaz|false=>none
def aAj:aJ:=fun id=>none
def aaT:Fun:=aV Tryz.prog ah (fun _=>true) aBN aAj (fun _=>false) lf Tryz.f147
theorem aDo:aj Tryz.prog ah 147 aaT:=aI aH (ai aC5 aA) Tryz.func147 (by kernel_rfl) (by kernel_rfl)
def aBH:FuncId→Option Fun:=fun f=>none
def aAc:aJ:=fun id=>none
def aaL:Fun:=aV Tryz.prog ah (fun _=>true) aBH aAc (fun _=>false) lf Tryz.f157
theorem aDg:aj Tryz.prog ah 157 aaL:=aI aH aA Tryz.func157 (by kernel_rfl) (by kernel_rfl)
def aBI:FuncId→Option Fun:=fun f=>match Nat.beq f 157 with|true=>some aaL|false=>none
def aAd:aJ:=fun id=>none
def aaM:Fun:=aV Tryz.prog ah (fun _=>true) aBI aAd (fun _=>false) lf Tryz.f156
theorem aDh:aj Tryz.prog ah 156 aaM:=aI aH (ai aDg aA) Tryz.func156 (by kernel_rfl) (by kernel_rfl)
def aGk:FuncId→Option Fun:=fun f=>match Nat.beq f 156 with|true=>some aaM|false=>none
def aFJ:aJ:=fun id=>none
def akp:Fun:=aV Tryz.prog ah (fun _=>true) aGk aFJ (fun _=>false) lf Tryz.f74
theorem aGT:aj Tryz.prog ah 74 akp:=aI aH (ai aDh aA) Tryz.func74 (by kernel_rfl) (by kernel_rfl)
def aGo:FuncId→Option Fun:=fun f=>match Nat.beq f 152 with|true=>some aaP|false=>match Nat.beq f 74 with|true=>some akp|false=>none
def aFN:aJ:=fun id=>none
def akt:Fun:=aV Tryz.prog ah (fun _=>true) aGo aFN (fun _=>false) lf Tryz.f64
theorem aGX:aj Tryz.prog ah 64 akt:=aI aH (ai aDk (ai aGT aA)) Tryz.func64 (by kernel_rfl) (by kernel_rfl)
def aGz:FuncId→Option Fun:=fun f=>match Nat.beq f 63 with|true=>some aku|false=>match Nat.beq f 64 with|true=>some akt|false=>match Nat.beq f 65 with|true=>some aks|false=>match Nat.beq f 66 with|true=>some akr|false=>match Nat.beq f 67 with|true=>some akq|false=>none
def aFZ:aJ:=fun id=>match Nat.beq id 12 with|true=>some ([0,0,2,6,14,0,32,96,224,0,0,0,0,8160,16352,32766,65535,131071,262143],[(1,.pure),(2,.pure),(3,.pure),(4,.read 0),(5,.pure),(6,.pure),(7,.pure),(8,.read 0),(9,.pure),(10,.pure),(11,.pure),(12,.pure),(13,.pure),(14,.alloc),(15,.heavy),(0,.pure),(16,.pure),(17,.pure),(18,.heavy)])|false=>match Nat.beq id 13 with|true=>some ([0,1,3,7,0,0,32,96,224,496,1008,2047],[(0,.pure),(1,.pure),(2,.pure),(3,.read 0),(4,.pure),(5,.pure),(6,.pure),(7,.pure),(8,.read 0),(9,.pure),(10,.alloc),(11,.heavy)])|false=>none
def akB:Fun:=aV Tryz.prog ah (fun _=>true) aGz aFZ (fun _=>false) lf Tryz.f33
theorem aG5:aj Tryz.prog ah 33 akB:=aI aH (ai aGY (ai aGX (ai aGW (ai aGV (ai aGU aA))))) Tryz.func33 (by kernel_rfl) (by kernel_rfl)
def aA4:FuncId→Option Fun:=fun f=>match Nat.beq f 33 with|true=>some akB|false=>match Nat.beq f 260 with|true=>some aaf|false=>match Nat.beq f 293 with|true=>some ZV|false=>match Nat.beq f 294 with|true=>some ZU|false=>none
def azr:aJ:=fun id=>none
def ZY:Fun:=aV Tryz.prog ah (fun _=>true) aA4 azr (fun _=>false) lf Tryz.f286
theorem aCC:aj Tryz.prog ah 286 ZY:=aI aH (ai aG5 (ai aCL (ai aCz (ai aCy aA)))) Tryz.func286 (by kernel_rfl) (by kernel_rfl)
def aBp:FuncId→Option Fun:=fun f=>match Nat.beq f 134 with|true=>some lJ|false=>match Nat.beq f 135 with|true=>some lI|false=>match Nat.beq f 268 with|true=>some xI|false=>match Nat.beq f 285 with|true=>some Z4|false=>match Nat.beq f 286 with|true=>some ZY|false=>match Nat.beq f 288 with|true=>some ZX|false=>match Nat.beq f 289 with|true=>some ZW|false=>match Nat.beq f 295 with|true=>some ZT|false=>none
def azP:aJ:=fun id=>match Nat.beq id 7 with|true=>some ([0,0,2,6,14,30,0,126,254,511,1023,2047,2047,4095,16383],[(0,.read 0),(1,.read 0),(2,.pure),(3,.pure),(4,.pure),(5,.read 0),(6,.pure),(7,.pure),(8,.read 0),(9,.heavy),(10,.pure),(11,.pure),(12,.pure),(13,.pure),(14,.pure)])|false=>match Nat.beq id 11 with|true=>some ([0,1,3,0,0,0,48,112,240,511],[(4,.heavy),(5,.pure),(6,.heavy),(7,.alloc),(8,.heavy),(0,.read 3),(1,.pure),(2,.pure),(3,.pure),(9,.heavy)])|false=>match Nat.beq id 13 with|true=>some ([0,0,2,0,0,16,48,112,240,511],[(0,.read 0),(1,.read 0),(2,.pure),(3,.pure),(4,.read 0),(5,.pure),(6,.pure),(7,.read 0),(8,.pure),(9,.heavy)])|false=>none
def aau:Fun:=aV Tryz.prog ah (fun _=>true) aBp azP (fun _=>false) lf Tryz.f216
theorem aC0:aj Tryz.prog ah 216 aau:=aI aH (ai mV (ai mQ (ai Ez (ai aCD (ai aCC (ai aCB (ai aCA (ai aCx aA)))))))) Tryz.func216 (by kernel_rfl) (by kernel_rfl)
def aBO:FuncId→Option Fun:=fun f=>match Nat.beq f 208 with|true=>some xK|false=>match Nat.beq f 211 with|true=>some aax|false=>match Nat.beq f 212 with|true=>some aaw|false=>match Nat.beq f 216 with|true=>some aau|false=>none
def aAk:aJ:=fun id=>none
def aaU:Fun:=aV Tryz.prog ah (fun _=>true) aBO aAk (fun _=>false) lf Tryz.f146
theorem aDp:aj Tryz.prog ah 146 aaU:=aI aH (ai ED (ai aC3 (ai aC2 (ai aC0 aA)))) Tryz.func146 (by kernel_rfl) (by kernel_rfl)
def aGt:FuncId→Option Fun:=fun f=>match Nat.beq f 145 with|true=>some aaV|false=>match Nat.beq f 146 with|true=>some aaU|false=>match Nat.beq f 147 with|true=>some aaT|false=>match Nat.beq f 134 with|true=>some lJ|false=>match Nat.beq f 135 with|true=>some lI|false=>none
def aFS:aJ:=fun id=>match Nat.beq id 4 with|true=>some ([0,0,2,6,0,0,63,127,255],[(0,.pure),(1,.pure),(2,.pure),(3,.pure),(4,.pure),(5,.read 0),(6,.pure),(7,.alloc),(8,.pure)])|false=>match Nat.beq id 5 with|true=>some ([0,0,2,0,8,0,32,120,255,511,1023,1023,2047,8191],[(3,.pure),(4,.heavy),(0,.pure),(1,.pure),(2,.read 1),(5,.pure),(6,.read 1),(7,.read 0),(8,.heavy),(9,.pure),(10,.pure),(12,.heavy),(11,.pure),(13,.pure)])|false=>match Nat.beq id 7 with|true=>some ([0,0,3,7,15,0,32,127,255],[(0,.heavy),(1,.pure),(2,.heavy),(3,.alloc),(4,.heavy),(5,.pure),(6,.read 3),(7,.pure),(8,.heavy)])|false=>none
def bF:Fun:=aV Tryz.prog ah (fun _=>true) aGt aFS (fun _=>false) lf Tryz.f56
theorem bH:aj Tryz.prog ah 56 bF:=aI aH (ai aDq (ai aDp (ai aDo (ai mV (ai mQ aA))))) Tryz.func56 (by kernel_rfl) (by kernel_rfl)
def aGH:FuncId→Option Fun:=fun f=>match Nat.beq f 50 with|true=>some dA|false=>match Nat.beq f 52 with|true=>some OU|false=>match Nat.beq f 53 with|true=>some OT|false=>match Nat.beq f 54 with|true=>some dn|false=>match Nat.beq f 55 with|true=>some OQ|false=>match Nat.beq f 56 with|true=>some bF|false=>none
def akf:aJ:=fun id=>match Nat.beq id 6 with|true=>some ([0,1,0,4,12,28,60,127,0,256,768,1792,3840,8191,0,16639,65535],[(0,.pure),(1,.heavy),(2,.pure),(3,.pure),(4,.pure),(5,.pure),(6,.read 1),(7,.heavy),(8,.pure),(9,.pure),(10,.pure),(11,.pure),(12,.read 2),(13,.pure),(14,.alloc),(15,.pure),(16,.heavy)])|false=>none
def akH:Fun:=aV Tryz.prog ah (fun _=>true) aGH akf (fun _=>false) lf Tryz.f24
theorem aHb:aj Tryz.prog ah 24 akH:=aI aH (ai dH (ai aki (ai akh (ai dw (ai akg (ai bH aA)))))) Tryz.func24 (by kernel_rfl) (by kernel_rfl)
def aNb:FuncId→Option Fun:=fun f=>match Nat.beq f 17 with|true=>some pz|false=>match Nat.beq f 23 with|true=>some dD|false=>match Nat.beq f 24 with|true=>some akH|false=>match Nat.beq f 25 with|true=>some dB|false=>none
def avv:aJ:=fun id=>match Nat.beq id 5 with|true=>some ([0,1,3,7,15,31,63,127,0,256,768,1792,3840,7936,16128,255,65535],[(0,.pure),(1,.read 0),(2,.pure),(3,.pure),(4,.read 0),(5,.pure),(6,.pure),(7,.read 0),(8,.pure),(9,.read 0),(10,.pure),(11,.pure),(12,.read 0),(13,.pure),(14,.read 0),(15,.pure),(16,.heavy)])|false=>none
def agG:Fun:=aV Tryz.prog ah (fun _=>true) aNb avv (fun _=>false) lf Tryz.f7
theorem avz:aj Tryz.prog ah 7 agG:=aI aH (ai DI (ai dJ (ai aHb (ai dI aA)))) Tryz.func7 (by kernel_rfl) (by kernel_rfl)
def aGQ:FuncId→Option Fun:=fun f=>match Nat.beq f 6 with|true=>some Ii|false=>match Nat.beq f 7 with|true=>some agG|false=>match Nat.beq f 8 with|true=>some ql|false=>match Nat.beq f 10 with|true=>some jP|false=>match Nat.beq f 18 with|true=>some OZ|false=>match Nat.beq f 19 with|true=>some OY|false=>match Nat.beq f 21 with|true=>some OX|false=>match Nat.beq f 26 with|true=>some akG|false=>match Nat.beq f 27 with|true=>some akF|false=>none
def aGh:aJ:=fun id=>match Nat.beq id 6 with|true=>some ([0,1,3,7,7,23,55,119,255,511,1023],[(0,.pure),(1,.pure),(2,.pure),(4,.heavy),(5,.heavy),(6,.alloc),(7,.heavy),(3,.read 3),(8,.heavy),(9,.pure),(10,.pure)])|false=>none
def akJ:Fun:=aV Tryz.prog ah (fun _=>true) aGQ aGh (fun _=>false) lf Tryz.f12
theorem aHe:aj Tryz.prog ah 12 akJ:=aI aH (ai avA (ai avz (ai agF (ai OM (ai akn (ai akm (ai akl (ai aHa (ai aG9 aA))))))))) Tryz.func12 (by kernel_rfl) (by kernel_rfl)
end Go.Proofs.Jm
