/- Part of the value machine, or of a walk by it: lemmas that the claim's last text uses. No conditions. -/
import Derived.Test.YtlafgccdobeinaaGreatDoorChecked
import Derived.KernelRfl
import Derived.Test.YtlafgccdobeinaaGreatDoorTVmE
import Derived.Test.YtlafgccdobeinaaGreatDoorTVmH
import Derived.Test.YtlafgccdobeinaaGreatDoorTVmJ
import Derived.Test.YtlafgccdobeinaaGreatDoorTVmM
set_option linter.unusedVariables false
set_option linter.unusedSimpArgs false
set_option linter.unnecessarySimpa false
noncomputable section
namespace Go.Proofs.ImW
open Go Go.Proofs Go.Vm
set_option linter.unusedVariables false
set_option maxRecDepth 100000
set_option maxHeartbeats 4000000
theorem Trymix : Tryz.prog.follows .mixedOrders = true := Tryz.checked.mixed
def TryG : Nat := 7
def Trye8 : FuncId → Option Fun := fun f => none
def Tryp8 : Plans := fun id => none
def TryF8 : Fun := funX Tryz.prog TryG (fun _ => true) Trye8 Tryp8 lf Tryz.f8
theorem Tryc8 : CallOk Tryz.prog TryG 8 TryF8 := funX_ok Trymix callsOk_0 Tryz.func8 (by kernel_rfl)
def Trye19 : FuncId → Option Fun := fun f => none
def Tryp19 : Plans := fun id => none
def TryF19 : Fun := funX Tryz.prog TryG (fun _ => true) Trye19 Tryp19 lf Tryz.f19
theorem Tryc19 : CallOk Tryz.prog TryG 19 TryF19 := funX_ok Trymix callsOk_0 Tryz.func19 (by kernel_rfl)
def Trye20 : FuncId → Option Fun := fun f => none
def Tryp20 : Plans := fun id => none
def TryF20 : Fun := funX Tryz.prog TryG (fun _ => true) Trye20 Tryp20 lf Tryz.f20
theorem Tryc20 : CallOk Tryz.prog TryG 20 TryF20 := funX_ok Trymix callsOk_0 Tryz.func20 (by kernel_rfl)
def Trye21 : FuncId → Option Fun := fun f => none
def Tryp21 : Plans := fun id => none
def TryF21 : Fun := funX Tryz.prog TryG (fun _ => true) Trye21 Tryp21 lf Tryz.f21
theorem Tryc21 : CallOk Tryz.prog TryG 21 TryF21 := funX_ok Trymix callsOk_0 Tryz.func21 (by kernel_rfl)
def Trye44 : FuncId → Option Fun := fun f => none
def Tryp44 : Plans := fun id => none
def TryF44 : Fun := funX Tryz.prog TryG (fun _ => true) Trye44 Tryp44 lf Tryz.f44
theorem Tryc44 : CallOk Tryz.prog TryG 44 TryF44 := funX_ok Trymix callsOk_0 Tryz.func44 (by kernel_rfl)
def Trye55 : FuncId → Option Fun := fun f => none
def Tryp55 : Plans := fun id => match Nat.beq id 5 with | true => some ([0, 1, 3, 7, 15, 7, 39, 103, 231, 7, 519, 2023, 4071, 8167, 16383, 32767], [(0, .pure), (1, .pure), (2, .pure), (3, .pure), (4, .read 0), (5, .pure), (6, .pure), (7, .pure), (8, .read 0), (9, .pure), (10, .pure), (11, .pure), (12, .pure), (13, .read 0), (14, .pure), (15, .pure)]) | false => match Nat.beq id 6 with | true => some ([0, 0, 2, 6, 14, 0, 32, 126, 255, 511, 1023], [(1, .pure), (2, .pure), (3, .pure), (4, .read 0), (5, .read 0), (6, .alloc), (7, .heavy), (0, .pure), (8, .pure), (9, .pure), (10, .heavy)]) | false => match Nat.beq id 8 with | true => some ([0, 1, 3, 7, 15, 0, 32, 96, 224, 511, 1023], [(0, .pure), (1, .pure), (2, .pure), (3, .read 0), (4, .pure), (5, .pure), (6, .pure), (7, .pure), (8, .read 0), (9, .pure), (10, .pure)]) | false => none
def TryF55 : Fun := funX Tryz.prog TryG (fun _ => true) Trye55 Tryp55 lf Tryz.f55
theorem Tryc55 : CallOk Tryz.prog TryG 55 TryF55 := funX_ok Trymix callsOk_0 Tryz.func55 (by kernel_rfl)
def Trye59 : FuncId → Option Fun := fun f => none
def Tryp59 : Plans := fun id => none
def TryF59 : Fun := funX Tryz.prog TryG (fun _ => true) Trye59 Tryp59 lf Tryz.f59
theorem Tryc59 : CallOk Tryz.prog TryG 59 TryF59 := funX_ok Trymix callsOk_0 Tryz.func59 (by kernel_rfl)
def TryF120 : Fun := atomLoad .i64
theorem Tryc120 : CallOk Tryz.prog TryG 120 TryF120 := atomLoad_ok Tryz.func120 (by kernel_rfl) (by kernel_rfl) (by kernel_rfl) .i64 (by kernel_rfl)
def Trye41 : FuncId → Option Fun := fun f => match Nat.beq f 120 with | true => some TryF120 | false => none
def Tryp41 : Plans := fun id => none
def TryF41 : Fun := funX Tryz.prog TryG (fun _ => true) Trye41 Tryp41 lf Tryz.f41
theorem Tryc41 : CallOk Tryz.prog TryG 41 TryF41 := funX_ok Trymix (callsOk_cons Tryc120 callsOk_0) Tryz.func41 (by kernel_rfl)
def Trye9 : FuncId → Option Fun := fun f => match Nat.beq f 41 with | true => some TryF41 | false => none
def Tryp9 : Plans := fun id => none
def TryF9 : Fun := funX Tryz.prog TryG (fun _ => true) Trye9 Tryp9 lf Tryz.f9
theorem Tryc9 : CallOk Tryz.prog TryG 9 TryF9 := funX_ok Trymix (callsOk_cons Tryc41 callsOk_0) Tryz.func9 (by kernel_rfl)
def Trye49 : FuncId → Option Fun := fun f => match Nat.beq f 9 with | true => some TryF9 | false => none
def Tryp49 : Plans := fun id => match Nat.beq id 1 with | true => some ([0, 1, 0, 4, 12, 28, 60, 127, 255], [(0, .pure), (1, .heavy), (2, .pure), (3, .pure), (4, .pure), (5, .pure), (6, .read 1), (7, .pure), (8, .pure)]) | false => none
def TryF49 : Fun := funX Tryz.prog TryG (fun _ => true) Trye49 Tryp49 lf Tryz.f49
theorem Tryc49 : CallOk Tryz.prog TryG 49 TryF49 := funX_ok Trymix (callsOk_cons Tryc9 callsOk_0) Tryz.func49 (by kernel_rfl)
def Trye124 : FuncId → Option Fun := fun f => none
def Tryp124 : Plans := fun id => none
def TryF124 : Fun := funX Tryz.prog TryG (fun _ => true) Trye124 Tryp124 lf Tryz.f124
theorem Tryc124 : CallOk Tryz.prog TryG 124 TryF124 := funX_ok Trymix callsOk_0 Tryz.func124 (by kernel_rfl)
def Trye127 : FuncId → Option Fun := fun f => none
def Tryp127 : Plans := fun id => none
def TryF127 : Fun := funX Tryz.prog TryG (fun _ => true) Trye127 Tryp127 lf Tryz.f127
theorem Tryc127 : CallOk Tryz.prog TryG 127 TryF127 := funX_ok Trymix callsOk_0 Tryz.func127 (by kernel_rfl)
def Trye129 : FuncId → Option Fun := fun f => none
def Tryp129 : Plans := fun id => match Nat.beq id 18 with | true => some ([0, 1, 3, 7, 15, 3, 35, 99, 255, 511], [(0, .pure), (1, .pure), (5, .pure), (6, .read 0), (7, .heavy), (2, .pure), (3, .pure), (4, .read 1), (8, .pure), (9, .pure)]) | false => match Nat.beq id 20 with | true => some ([0, 0, 2, 0, 8, 24, 0, 64, 192, 504, 0, 1024, 3072, 8184, 16376, 32760, 65528, 131071], [(3, .pure), (4, .read 0), (5, .heavy), (6, .pure), (7, .pure), (8, .read 1), (9, .heavy), (10, .pure), (11, .pure), (12, .read 2), (13, .heavy), (0, .pure), (1, .pure), (2, .pure), (14, .pure), (15, .pure), (16, .alloc), (17, .heavy)]) | false => match Nat.beq id 22 with | true => some ([0, 1, 3, 7, 0, 16, 48, 112, 240, 15, 1023], [(0, .pure), (1, .pure), (2, .pure), (3, .read 0), (4, .pure), (5, .pure), (6, .pure), (7, .read 0), (8, .pure), (9, .pure), (10, .pure)]) | false => none
def TryF129 : Fun := funX Tryz.prog TryG (fun _ => true) Trye129 Tryp129 lf Tryz.f129
theorem Tryc129 : CallOk Tryz.prog TryG 129 TryF129 := funX_ok Trymix callsOk_0 Tryz.func129 (by kernel_rfl)
def Trye130 : FuncId → Option Fun := fun f => none
def Tryp130 : Plans := fun id => match Nat.beq id 1 with | true => some ([0, 1, 3, 7, 15, 0, 32, 96, 224, 480, 1023, 2047], [(0, .pure), (1, .pure), (2, .pure), (3, .read 0), (4, .heavy), (5, .pure), (6, .pure), (7, .pure), (8, .read 1), (9, .pure), (10, .heavy), (11, .pure)]) | false => none
def TryF130 : Fun := funX Tryz.prog TryG (fun _ => true) Trye130 Tryp130 lf Tryz.f130
theorem Tryc130 : CallOk Tryz.prog TryG 130 TryF130 := funX_ok Trymix callsOk_0 Tryz.func130 (by kernel_rfl)
def Trye107 : FuncId → Option Fun := fun f => none
def Tryp107 : Plans := fun id => none
def TryF107 : Fun := funX Tryz.prog TryG (fun _ => true) Trye107 Tryp107 lf Tryz.f107
theorem Tryc107 : CallOk Tryz.prog TryG 107 TryF107 := funX_ok Trymix callsOk_0 Tryz.func107 (by kernel_rfl)
def Trye135 : FuncId → Option Fun := fun f => none
def Tryp135 : Plans := fun id => match Nat.beq id 6 with | true => some ([0, 0, 3, 7, 0, 0, 32, 112, 240, 511], [(0, .pure), (1, .pure), (2, .pure), (3, .read 0), (4, .pure), (5, .pure), (6, .pure), (7, .pure), (8, .read 0), (9, .pure)]) | false => match Nat.beq id 11 with | true => some ([0, 0, 3, 7, 0, 0, 32, 112, 240, 511], [(0, .pure), (1, .pure), (2, .pure), (3, .read 0), (4, .pure), (5, .pure), (6, .pure), (7, .pure), (8, .read 0), (9, .pure)]) | false => none
def TryF135 : Fun := funX Tryz.prog TryG (fun _ => true) Trye135 Tryp135 lf Tryz.f135
theorem Tryc135 : CallOk Tryz.prog TryG 135 TryF135 := funX_ok Trymix callsOk_0 Tryz.func135 (by kernel_rfl)
def Trye136 : FuncId → Option Fun := fun f => none
def Tryp136 : Plans := fun id => none
def TryF136 : Fun := funX Tryz.prog TryG (fun _ => true) Trye136 Tryp136 lf Tryz.f136
theorem Tryc136 : CallOk Tryz.prog TryG 136 TryF136 := funX_ok Trymix callsOk_0 Tryz.func136 (by kernel_rfl)
def Trye138 : FuncId → Option Fun := fun f => none
def Tryp138 : Plans := fun id => match Nat.beq id 6 with | true => some ([0, 0, 3, 7, 0, 0, 32, 112, 240, 511], [(0, .pure), (1, .pure), (2, .pure), (3, .read 0), (4, .pure), (5, .pure), (6, .pure), (7, .pure), (8, .read 0), (9, .pure)]) | false => match Nat.beq id 11 with | true => some ([0, 0, 3, 7, 0, 0, 32, 112, 240, 511], [(0, .pure), (1, .pure), (2, .pure), (3, .read 0), (4, .pure), (5, .pure), (6, .pure), (7, .pure), (8, .read 0), (9, .pure)]) | false => none
def TryF138 : Fun := funX Tryz.prog TryG (fun _ => true) Trye138 Tryp138 lf Tryz.f138
theorem Tryc138 : CallOk Tryz.prog TryG 138 TryF138 := funX_ok Trymix callsOk_0 Tryz.func138 (by kernel_rfl)
def TryF147 : Fun := atomStore
theorem Tryc147 : CallOk Tryz.prog TryG 147 TryF147 := atomStore_ok Tryz.func147 (by kernel_rfl) (by kernel_rfl) (by kernel_rfl) (by kernel_rfl)
def Trye60 : FuncId → Option Fun := fun f => match Nat.beq f 147 with | true => some TryF147 | false => none
def Tryp60 : Plans := fun id => none
def TryF60 : Fun := funX Tryz.prog TryG (fun _ => true) Trye60 Tryp60 lf Tryz.f60
theorem Tryc60 : CallOk Tryz.prog TryG 60 TryF60 := funX_ok Trymix (callsOk_cons Tryc147 callsOk_0) Tryz.func60 (by kernel_rfl)
def Trye123 : FuncId → Option Fun := fun f => none
def Tryp123 : Plans := fun id => none
def TryF123 : Fun := funX Tryz.prog TryG (fun _ => true) Trye123 Tryp123 lf Tryz.f123
theorem Tryc123 : CallOk Tryz.prog TryG 123 TryF123 := funX_ok Trymix callsOk_0 Tryz.func123 (by kernel_rfl)
def TryF236 : Fun := atomAdd .i64
theorem Tryc236 : CallOk Tryz.prog TryG 236 TryF236 := atomAdd_ok Tryz.func236 (by kernel_rfl) (by kernel_rfl) (by kernel_rfl) .i64 (by kernel_rfl)
def Trye125 : FuncId → Option Fun := fun f => match Nat.beq f 236 with | true => some TryF236 | false => none
def Tryp125 : Plans := fun id => none
def TryF125 : Fun := funX Tryz.prog TryG (fun _ => true) Trye125 Tryp125 lf Tryz.f125
theorem Tryc125 : CallOk Tryz.prog TryG 125 TryF125 := funX_ok Trymix (callsOk_cons Tryc236 callsOk_0) Tryz.func125 (by kernel_rfl)
def Trye52 : FuncId → Option Fun := fun f => match Nat.beq f 125 with | true => some TryF125 | false => none
def Tryp52 : Plans := fun id => none
def TryF52 : Fun := funX Tryz.prog TryG (fun _ => true) Trye52 Tryp52 lf Tryz.f52
theorem Tryc52 : CallOk Tryz.prog TryG 52 TryF52 := funX_ok Trymix (callsOk_cons Tryc125 callsOk_0) Tryz.func52 (by kernel_rfl)
def Trye23 : FuncId → Option Fun := fun f => none
def Tryp23 : Plans := fun id => none
def TryF23 : Fun := funX Tryz.prog TryG (fun _ => true) Trye23 Tryp23 lf Tryz.f23
theorem Tryc23 : CallOk Tryz.prog TryG 23 TryF23 := funX_ok Trymix callsOk_0 Tryz.func23 (by kernel_rfl)
def Trye126 : FuncId → Option Fun := fun f => match Nat.beq f 23 with | true => some TryF23 | false => none
def Tryp126 : Plans := fun id => none
def TryF126 : Fun := funX Tryz.prog TryG (fun _ => true) Trye126 Tryp126 lf Tryz.f126
theorem Tryc126 : CallOk Tryz.prog TryG 126 TryF126 := funX_ok Trymix (callsOk_cons Tryc23 callsOk_0) Tryz.func126 (by kernel_rfl)
def Trye244 : FuncId → Option Fun := fun f => none
def Tryp244 : Plans := fun id => none
def TryF244 : Fun := funX Tryz.prog TryG (fun _ => true) Trye244 Tryp244 lf Tryz.f244
theorem Tryc244 : CallOk Tryz.prog TryG 244 TryF244 := funX_ok Trymix callsOk_0 Tryz.func244 (by kernel_rfl)
def Trye131 : FuncId → Option Fun := fun f => match Nat.beq f 244 with | true => some TryF244 | false => none
def Tryp131 : Plans := fun id => none
def TryF131 : Fun := funX Tryz.prog TryG (fun _ => true) Trye131 Tryp131 lf Tryz.f131
theorem Tryc131 : CallOk Tryz.prog TryG 131 TryF131 := funX_ok Trymix (callsOk_cons Tryc244 callsOk_0) Tryz.func131 (by kernel_rfl)
def Trye144 : FuncId → Option Fun := fun f => none
def Tryp144 : Plans := fun id => none
def TryF144 : Fun := funX Tryz.prog TryG (fun _ => true) Trye144 Tryp144 lf Tryz.f144
theorem Tryc144 : CallOk Tryz.prog TryG 144 TryF144 := funX_ok Trymix callsOk_0 Tryz.func144 (by kernel_rfl)
def Trye249 : FuncId → Option Fun := fun f => none
def Tryp249 : Plans := fun id => none
def TryF249 : Fun := funX Tryz.prog TryG (fun _ => true) Trye249 Tryp249 lf Tryz.f249
theorem Tryc249 : CallOk Tryz.prog TryG 249 TryF249 := funX_ok Trymix callsOk_0 Tryz.func249 (by kernel_rfl)
def Trye253 : FuncId → Option Fun := fun f => none
def Tryp253 : Plans := fun id => none
def TryF253 : Fun := funX Tryz.prog TryG (fun _ => true) Trye253 Tryp253 lf Tryz.f253
theorem Tryc253 : CallOk Tryz.prog TryG 253 TryF253 := funX_ok Trymix callsOk_0 Tryz.func253 (by kernel_rfl)
def Trye149 : FuncId → Option Fun := fun f => match Nat.beq f 253 with | true => some TryF253 | false => none
def Tryp149 : Plans := fun id => none
def TryF149 : Fun := funX Tryz.prog TryG (fun _ => true) Trye149 Tryp149 lf Tryz.f149
theorem Tryc149 : CallOk Tryz.prog TryG 149 TryF149 := funX_ok Trymix (callsOk_cons Tryc253 callsOk_0) Tryz.func149 (by kernel_rfl)
def Trye248 : FuncId → Option Fun := fun f => none
def Tryp248 : Plans := fun id => none
def TryF248 : Fun := funX Tryz.prog TryG (fun _ => true) Trye248 Tryp248 lf Tryz.f248
theorem Tryc248 : CallOk Tryz.prog TryG 248 TryF248 := funX_ok Trymix callsOk_0 Tryz.func248 (by kernel_rfl)
def Trye174 : FuncId → Option Fun := fun f => match Nat.beq f 248 with | true => some TryF248 | false => none
def Tryp174 : Plans := fun id => none
def TryF174 : Fun := funX Tryz.prog TryG (fun _ => true) Trye174 Tryp174 lf Tryz.f174
theorem Tryc174 : CallOk Tryz.prog TryG 174 TryF174 := funX_ok Trymix (callsOk_cons Tryc248 callsOk_0) Tryz.func174 (by kernel_rfl)
def Trye140 : FuncId → Option Fun := fun f => match Nat.beq f 174 with | true => some TryF174 | false => none
def Tryp140 : Plans := fun id => none
def TryF140 : Fun := funX Tryz.prog TryG (fun _ => true) Trye140 Tryp140 lf Tryz.f140
theorem Tryc140 : CallOk Tryz.prog TryG 140 TryF140 := funX_ok Trymix (callsOk_cons Tryc174 callsOk_0) Tryz.func140 (by kernel_rfl)
def Trye51 : FuncId → Option Fun := fun f => match Nat.beq f 140 with | true => some TryF140 | false => none
def Tryp51 : Plans := fun id => match Nat.beq id 1 with | true => some ([0, 1, 3, 7, 0, 0, 48, 127, 255, 511, 0, 1024, 3072, 7168, 15360, 32767, 65535], [(4, .pure), (5, .pure), (6, .heavy), (0, .pure), (1, .pure), (2, .pure), (3, .read 1), (7, .pure), (8, .pure), (9, .read 0), (10, .pure), (11, .pure), (12, .pure), (13, .pure), (14, .read 1), (15, .pure), (16, .pure)]) | false => none
def TryF51 : Fun := funX Tryz.prog TryG (fun _ => true) Trye51 Tryp51 lf Tryz.f51
theorem Tryc51 : CallOk Tryz.prog TryG 51 TryF51 := funX_ok Trymix (callsOk_cons Tryc140 callsOk_0) Tryz.func51 (by kernel_rfl)
def Trye54 : FuncId → Option Fun := fun f => match Nat.beq f 140 with | true => some TryF140 | false => none
def Tryp54 : Plans := fun id => match Nat.beq id 1 with | true => some ([0, 1, 3, 7, 0, 0, 48, 127, 255], [(4, .pure), (5, .pure), (6, .heavy), (0, .pure), (1, .pure), (2, .pure), (3, .read 1), (7, .pure), (8, .pure)]) | false => none
def TryF54 : Fun := funX Tryz.prog TryG (fun _ => true) Trye54 Tryp54 lf Tryz.f54
theorem Tryc54 : CallOk Tryz.prog TryG 54 TryF54 := funX_ok Trymix (callsOk_cons Tryc140 callsOk_0) Tryz.func54 (by kernel_rfl)
def Trye139 : FuncId → Option Fun := fun f => match Nat.beq f 140 with | true => some TryF140 | false => none
def Tryp139 : Plans := fun id => none
def TryF139 : Fun := funX Tryz.prog TryG (fun _ => true) Trye139 Tryp139 lf Tryz.f139
theorem Tryc139 : CallOk Tryz.prog TryG 139 TryF139 := funX_ok Trymix (callsOk_cons Tryc140 callsOk_0) Tryz.func139 (by kernel_rfl)
def Trye141 : FuncId → Option Fun := fun f => match Nat.beq f 51 with | true => some TryF51 | false => match Nat.beq f 139 with | true => some TryF139 | false => none
def Tryp141 : Plans := fun id => none
def TryF141 : Fun := funX Tryz.prog TryG (fun _ => true) Trye141 Tryp141 lf Tryz.f141
theorem Tryc141 : CallOk Tryz.prog TryG 141 TryF141 := funX_ok Trymix (callsOk_cons Tryc51 (callsOk_cons Tryc139 callsOk_0)) Tryz.func141 (by kernel_rfl)
def Trye50 : FuncId → Option Fun := fun f => match Nat.beq f 141 with | true => some TryF141 | false => none
def Tryp50 : Plans := fun id => none
def TryF50 : Fun := funX Tryz.prog TryG (fun _ => true) Trye50 Tryp50 lf Tryz.f50
theorem Tryc50 : CallOk Tryz.prog TryG 50 TryF50 := funX_ok Trymix (callsOk_cons Tryc141 callsOk_0) Tryz.func50 (by kernel_rfl)
def Trye326 : FuncId → Option Fun := fun f => none
def Tryp326 : Plans := fun id => match Nat.beq id 1 with | true => some ([0, 1, 3, 7, 0, 16, 48, 112, 255, 511, 0, 1024, 3072, 7168, 16383, 32767], [(0, .pure), (1, .pure), (2, .pure), (3, .read 0), (4, .pure), (5, .pure), (6, .pure), (7, .read 0), (8, .pure), (9, .read 0), (10, .pure), (11, .pure), (12, .pure), (13, .read 0), (14, .pure), (15, .pure)]) | false => none
def TryF326 : Fun := funX Tryz.prog TryG (fun _ => true) Trye326 Tryp326 lf Tryz.f326
theorem Tryc326 : CallOk Tryz.prog TryG 326 TryF326 := funX_ok Trymix callsOk_0 Tryz.func326 (by kernel_rfl)
def Trye402 : FuncId → Option Fun := fun f => match Nat.beq f 326 with | true => some TryF326 | false => none
def Tryp402 : Plans := fun id => none
def TryF402 : Fun := funX Tryz.prog TryG (fun _ => true) Trye402 Tryp402 lf Tryz.f402
theorem Tryc402 : CallOk Tryz.prog TryG 402 TryF402 := funX_ok Trymix (callsOk_cons Tryc326 callsOk_0) Tryz.func402 (by kernel_rfl)
def Trye478 : FuncId → Option Fun := fun f => match Nat.beq f 326 with | true => some TryF326 | false => none
def Tryp478 : Plans := fun id => match Nat.beq id 1 with | true => some ([0, 1, 3, 7, 15, 31, 63, 127, 15, 271, 783, 1807, 3855, 8191, 16383, 32767], [(0, .pure), (1, .heavy), (2, .pure), (3, .pure), (4, .pure), (5, .pure), (6, .pure), (7, .read 0), (8, .pure), (9, .pure), (10, .pure), (11, .read 0), (12, .pure), (13, .pure), (14, .pure), (15, .pure)]) | false => none
def TryF478 : Fun := funX Tryz.prog TryG (fun _ => true) Trye478 Tryp478 lf Tryz.f478
theorem Tryc478 : CallOk Tryz.prog TryG 478 TryF478 := funX_ok Trymix (callsOk_cons Tryc326 callsOk_0) Tryz.func478 (by kernel_rfl)
def TryF327 : Fun := sameF
theorem Tryc327 : CallOk Tryz.prog TryG 327 TryF327 := sameF_ok Tryz.func327 (by kernel_rfl) (by kernel_rfl) (by kernel_rfl) (by kernel_rfl)
def Trye237 : FuncId → Option Fun := fun f => match Nat.beq f 327 with | true => some TryF327 | false => none
def Tryp237 : Plans := fun id => none
def TryF237 : Fun := funX Tryz.prog TryG (fun _ => true) Trye237 Tryp237 lf Tryz.f237
theorem Tryc237 : CallOk Tryz.prog TryG 237 TryF237 := funX_ok Trymix (callsOk_cons Tryc327 callsOk_0) Tryz.func237 (by kernel_rfl)
def Trye128 : FuncId → Option Fun := fun f => match Nat.beq f 237 with | true => some TryF237 | false => none
def Tryp128 : Plans := fun id => none
def TryF128 : Fun := funX Tryz.prog TryG (fun _ => true) Trye128 Tryp128 lf Tryz.f128
theorem Tryc128 : CallOk Tryz.prog TryG 128 TryF128 := funX_ok Trymix (callsOk_cons Tryc237 callsOk_0) Tryz.func128 (by kernel_rfl)
def Trye328 : FuncId → Option Fun := fun f => none
def Tryp328 : Plans := fun id => match Nat.beq id 4 with | true => some ([0, 0, 3, 7, 15, 15, 63, 127, 15, 15, 527, 1807, 3855, 8191, 16383], [(0, .pure), (1, .pure), (2, .pure), (3, .pure), (4, .pure), (5, .pure), (6, .pure), (7, .read 0), (8, .pure), (9, .pure), (10, .pure), (11, .pure), (12, .read 0), (13, .heavy), (14, .pure)]) | false => match Nat.beq id 6 with | true => some ([0, 0, 0, 0, 8, 0, 0, 64, 224, 480, 0, 0, 3072, 7168, 16355, 32739, 65535, 131071], [(0, .pure), (1, .pure), (5, .pure), (6, .pure), (7, .pure), (8, .pure), (9, .read 0), (10, .pure), (11, .pure), (12, .pure), (13, .read 0), (14, .pure), (15, .heavy), (2, .pure), (3, .pure), (4, .pure), (16, .pure), (17, .heavy)]) | false => none
def TryF328 : Fun := funX Tryz.prog TryG (fun _ => true) Trye328 Tryp328 lf Tryz.f328
theorem Tryc328 : CallOk Tryz.prog TryG 328 TryF328 := funX_ok Trymix callsOk_0 Tryz.func328 (by kernel_rfl)
def Trye245 : FuncId → Option Fun := fun f => match Nat.beq f 328 with | true => some TryF328 | false => none
def Tryp245 : Plans := fun id => match Nat.beq id 17 with | true => some ([0, 1, 3, 7, 7, 23, 63, 127, 7, 7, 775, 1799, 4095, 8191, 16383], [(0, .pure), (1, .pure), (2, .pure), (3, .pure), (4, .pure), (5, .pure), (6, .pure), (7, .read 0), (8, .pure), (9, .pure), (10, .pure), (11, .read 0), (12, .heavy), (13, .pure), (14, .pure)]) | false => none
def TryF245 : Fun := funX Tryz.prog TryG (fun _ => true) Trye245 Tryp245 lf Tryz.f245
theorem Tryc245 : CallOk Tryz.prog TryG 245 TryF245 := funX_ok Trymix (callsOk_cons Tryc328 callsOk_0) Tryz.func245 (by kernel_rfl)
def Trye338 : FuncId → Option Fun := fun f => none
def Tryp338 : Plans := fun id => none
def TryF338 : Fun := funX Tryz.prog TryG (fun _ => true) Trye338 Tryp338 lf Tryz.f338
theorem Tryc338 : CallOk Tryz.prog TryG 338 TryF338 := funX_ok Trymix callsOk_0 Tryz.func338 (by kernel_rfl)
def Trye246 : FuncId → Option Fun := fun f => match Nat.beq f 338 with | true => some TryF338 | false => none
def Tryp246 : Plans := fun id => none
def TryF246 : Fun := funX Tryz.prog TryG (fun _ => true) Trye246 Tryp246 lf Tryz.f246
theorem Tryc246 : CallOk Tryz.prog TryG 246 TryF246 := funX_ok Trymix (callsOk_cons Tryc338 callsOk_0) Tryz.func246 (by kernel_rfl)
def Trye134 : FuncId → Option Fun := fun f => match Nat.beq f 245 with | true => some TryF245 | false => match Nat.beq f 246 with | true => some TryF246 | false => none
def Tryp134 : Plans := fun id => none
def TryF134 : Fun := funX Tryz.prog TryG (fun _ => true) Trye134 Tryp134 lf Tryz.f134
theorem Tryc134 : CallOk Tryz.prog TryG 134 TryF134 := funX_ok Trymix (callsOk_cons Tryc245 (callsOk_cons Tryc246 callsOk_0)) Tryz.func134 (by kernel_rfl)
def Trye47 : FuncId → Option Fun := fun f => match Nat.beq f 107 with | true => some TryF107 | false => match Nat.beq f 131 with | true => some TryF131 | false => match Nat.beq f 134 with | true => some TryF134 | false => match Nat.beq f 135 with | true => some TryF135 | false => none
def Tryp47 : Plans := fun id => none
def TryF47 : Fun := funX Tryz.prog TryG (fun _ => true) Trye47 Tryp47 lf Tryz.f47
theorem Tryc47 : CallOk Tryz.prog TryG 47 TryF47 := funX_ok Trymix (callsOk_cons Tryc107 (callsOk_cons Tryc131 (callsOk_cons Tryc134 (callsOk_cons Tryc135 callsOk_0)))) Tryz.func47 (by kernel_rfl)
def Trye339 : FuncId → Option Fun := fun f => none
def Tryp339 : Plans := fun id => match Nat.beq id 4 with | true => some ([0, 0, 3, 7, 15, 15, 63, 127, 15, 15, 527, 1807, 3855, 8191, 16383], [(0, .pure), (1, .pure), (2, .pure), (3, .pure), (4, .pure), (5, .pure), (6, .pure), (7, .read 0), (8, .pure), (9, .pure), (10, .pure), (11, .pure), (12, .read 0), (13, .heavy), (14, .pure)]) | false => match Nat.beq id 6 with | true => some ([0, 0, 0, 0, 8, 0, 0, 64, 224, 480, 0, 0, 3072, 7168, 16355, 32739, 65535, 131071], [(0, .pure), (1, .pure), (5, .pure), (6, .pure), (7, .pure), (8, .pure), (9, .read 0), (10, .pure), (11, .pure), (12, .pure), (13, .read 0), (14, .pure), (15, .heavy), (2, .pure), (3, .pure), (4, .pure), (16, .pure), (17, .heavy)]) | false => none
def TryF339 : Fun := funX Tryz.prog TryG (fun _ => true) Trye339 Tryp339 lf Tryz.f339
theorem Tryc339 : CallOk Tryz.prog TryG 339 TryF339 := funX_ok Trymix callsOk_0 Tryz.func339 (by kernel_rfl)
def Trye247 : FuncId → Option Fun := fun f => match Nat.beq f 339 with | true => some TryF339 | false => none
def Tryp247 : Plans := fun id => match Nat.beq id 17 with | true => some ([0, 1, 3, 7, 7, 23, 63, 127, 7, 7, 775, 1799, 4095, 8191, 16383], [(0, .pure), (1, .pure), (2, .pure), (3, .pure), (4, .pure), (5, .pure), (6, .pure), (7, .read 0), (8, .pure), (9, .pure), (10, .pure), (11, .read 0), (12, .heavy), (13, .pure), (14, .pure)]) | false => none
def TryF247 : Fun := funX Tryz.prog TryG (fun _ => true) Trye247 Tryp247 lf Tryz.f247
theorem Tryc247 : CallOk Tryz.prog TryG 247 TryF247 := funX_ok Trymix (callsOk_cons Tryc339 callsOk_0) Tryz.func247 (by kernel_rfl)
def Trye137 : FuncId → Option Fun := fun f => match Nat.beq f 246 with | true => some TryF246 | false => match Nat.beq f 247 with | true => some TryF247 | false => none
def Tryp137 : Plans := fun id => none
def TryF137 : Fun := funX Tryz.prog TryG (fun _ => true) Trye137 Tryp137 lf Tryz.f137
theorem Tryc137 : CallOk Tryz.prog TryG 137 TryF137 := funX_ok Trymix (callsOk_cons Tryc246 (callsOk_cons Tryc247 callsOk_0)) Tryz.func137 (by kernel_rfl)
def Trye48 : FuncId → Option Fun := fun f => match Nat.beq f 50 with | true => some TryF50 | false => match Nat.beq f 136 with | true => some TryF136 | false => match Nat.beq f 137 with | true => some TryF137 | false => match Nat.beq f 138 with | true => some TryF138 | false => none
def Tryp48 : Plans := fun id => none
def TryF48 : Fun := funX Tryz.prog TryG (fun _ => true) Trye48 Tryp48 lf Tryz.f48
theorem Tryc48 : CallOk Tryz.prog TryG 48 TryF48 := funX_ok Trymix (callsOk_cons Tryc50 (callsOk_cons Tryc136 (callsOk_cons Tryc137 (callsOk_cons Tryc138 callsOk_0)))) Tryz.func48 (by kernel_rfl)
def Trye56 : FuncId → Option Fun := fun f => match Nat.beq f 136 with | true => some TryF136 | false => match Nat.beq f 137 with | true => some TryF137 | false => match Nat.beq f 138 with | true => some TryF138 | false => match Nat.beq f 140 with | true => some TryF140 | false => none
def Tryp56 : Plans := fun id => match Nat.beq id 7 with | true => some ([0, 1, 3, 7, 0, 0, 48, 0, 255, 511, 1023], [(4, .pure), (5, .pure), (6, .heavy), (0, .pure), (1, .pure), (2, .pure), (3, .read 1), (7, .pure), (8, .pure), (9, .pure), (10, .heavy)]) | false => none
def TryF56 : Fun := funX Tryz.prog TryG (fun _ => true) Trye56 Tryp56 lf Tryz.f56
theorem Tryc56 : CallOk Tryz.prog TryG 56 TryF56 := funX_ok Trymix (callsOk_cons Tryc136 (callsOk_cons Tryc137 (callsOk_cons Tryc138 (callsOk_cons Tryc140 callsOk_0)))) Tryz.func56 (by kernel_rfl)
def Trye349 : FuncId → Option Fun := fun f => none
def Tryp349 : Plans := fun id => match Nat.beq id 4 with | true => some ([0, 0, 2, 7, 0, 16, 63, 127], [(0, .pure), (1, .pure), (2, .pure), (3, .heavy), (4, .pure), (5, .pure), (6, .heavy), (7, .pure)]) | false => none
def TryF349 : Fun := funX Tryz.prog TryG (fun _ => true) Trye349 Tryp349 lf Tryz.f349
theorem Tryc349 : CallOk Tryz.prog TryG 349 TryF349 := funX_ok Trymix callsOk_0 Tryz.func349 (by kernel_rfl)
def TryF350 : Fun := idxF
theorem Tryc350 : CallOk Tryz.prog TryG 350 TryF350 := idxF_ok Tryz.func350 (by kernel_rfl) (by kernel_rfl) (by kernel_rfl) (by kernel_rfl)
def Trye251 : FuncId → Option Fun := fun f => match Nat.beq f 350 with | true => some TryF350 | false => none
def Tryp251 : Plans := fun id => none
def TryF251 : Fun := funX Tryz.prog TryG (fun _ => true) Trye251 Tryp251 lf Tryz.f251
theorem Tryc251 : CallOk Tryz.prog TryG 251 TryF251 := funX_ok Trymix (callsOk_cons Tryc350 callsOk_0) Tryz.func251 (by kernel_rfl)
def Trye146 : FuncId → Option Fun := fun f => match Nat.beq f 251 with | true => some TryF251 | false => none
def Tryp146 : Plans := fun id => none
def TryF146 : Fun := funX Tryz.prog TryG (fun _ => true) Trye146 Tryp146 lf Tryz.f146
theorem Tryc146 : CallOk Tryz.prog TryG 146 TryF146 := funX_ok Trymix (callsOk_cons Tryc251 callsOk_0) Tryz.func146 (by kernel_rfl)
def Trye58 : FuncId → Option Fun := fun f => match Nat.beq f 146 with | true => some TryF146 | false => none
def Tryp58 : Plans := fun id => none
def TryF58 : Fun := funX Tryz.prog TryG (fun _ => true) Trye58 Tryp58 lf Tryz.f58
theorem Tryc58 : CallOk Tryz.prog TryG 58 TryF58 := funX_ok Trymix (callsOk_cons Tryc146 callsOk_0) Tryz.func58 (by kernel_rfl)
def Trye18 : FuncId → Option Fun := fun f => match Nat.beq f 58 with | true => some TryF58 | false => match Nat.beq f 59 with | true => some TryF59 | false => match Nat.beq f 60 with | true => some TryF60 | false => none
def Tryp18 : Plans := fun id => none
def TryF18 : Fun := funX Tryz.prog TryG (fun _ => true) Trye18 Tryp18 lf Tryz.f18
theorem Tryc18 : CallOk Tryz.prog TryG 18 TryF18 := funX_ok Trymix (callsOk_cons Tryc58 (callsOk_cons Tryc59 (callsOk_cons Tryc60 callsOk_0))) Tryz.func18 (by kernel_rfl)
def Trye348 : FuncId → Option Fun := fun f => match Nat.beq f 146 with | true => some TryF146 | false => none
def Tryp348 : Plans := fun id => match Nat.beq id 1 with | true => some ([0, 0, 0, 7, 0, 15, 63], [(0, .read 0), (1, .read 0), (2, .read 0), (3, .pure), (4, .read 0), (5, .pure), (6, .pure)]) | false => match Nat.beq id 4 with | true => some ([0, 0, 3, 7, 0, 0, 48, 112, 15, 511], [(0, .pure), (1, .pure), (2, .pure), (3, .heavy), (4, .read 1), (5, .pure), (6, .pure), (7, .pure), (8, .pure), (9, .pure)]) | false => none
def TryI348 : IterF := iterX Tryz.prog TryG (fun _ => true) Trye348 Tryp348 lf Tryz.f348
theorem Tryj348 : IterOk Tryz.prog TryG 348 TryI348 := iterX_ok Trymix (callsOk_cons Tryc146 callsOk_0) Tryz.func348 (by kernel_rfl)
def Trye351 : FuncId → Option Fun := fun f => match Nat.beq f 251 with | true => some TryF251 | false => none
def Tryp351 : Plans := fun id => none
def TryF351 : Fun := funX Tryz.prog TryG (fun _ => true) Trye351 Tryp351 lf Tryz.f351
theorem Tryc351 : CallOk Tryz.prog TryG 351 TryF351 := funX_ok Trymix (callsOk_cons Tryc251 callsOk_0) Tryz.func351 (by kernel_rfl)
def Trye256 : FuncId → Option Fun := fun f => match Nat.beq f 351 with | true => some TryF351 | false => none
def Tryp256 : Plans := fun id => match Nat.beq id 3 with | true => some ([0, 0, 3, 0, 0, 0, 32, 112, 248, 7, 1023, 2047], [(0, .pure), (1, .pure), (2, .pure), (3, .pure), (4, .pure), (5, .pure), (6, .pure), (7, .pure), (8, .pure), (9, .pure), (10, .pure), (11, .pure)]) | false => none
def TryF256 : Fun := funX Tryz.prog TryG (fun _ => true) Trye256 Tryp256 lf Tryz.f256
theorem Tryc256 : CallOk Tryz.prog TryG 256 TryF256 := funX_ok Trymix (callsOk_cons Tryc351 callsOk_0) Tryz.func256 (by kernel_rfl)
def Trye160 : FuncId → Option Fun := fun f => match Nat.beq f 256 with | true => some TryF256 | false => none
def Tryp160 : Plans := fun id => none
def TryF160 : Fun := funX Tryz.prog TryG (fun _ => true) Trye160 Tryp160 lf Tryz.f160
theorem Tryc160 : CallOk Tryz.prog TryG 160 TryF160 := funX_ok Trymix (callsOk_cons Tryc256 callsOk_0) Tryz.func160 (by kernel_rfl)
def Trye250 : FuncId → Option Fun := fun f => match Nat.beq f 160 with | true => some TryF160 | false => match Nat.beq f 349 with | true => some TryF349 | false => none
def Tryp250 : Plans := fun id => none
def TryF250 : Fun := funX Tryz.prog TryG (fun _ => true) Trye250 Tryp250 lf Tryz.f250
theorem Tryc250 : CallOk Tryz.prog TryG 250 TryF250 := funX_ok Trymix (callsOk_cons Tryc160 (callsOk_cons Tryc349 callsOk_0)) Tryz.func250 (by kernel_rfl)
def Trye143 : FuncId → Option Fun := fun f => match Nat.beq f 249 with | true => some TryF249 | false => match Nat.beq f 250 with | true => some TryF250 | false => none
def Tryp143 : Plans := fun id => match Nat.beq id 22 with | true => some ([0, 0, 1, 7], [(0, .pure), (1, .read 0), (2, .pure), (3, .heavy)]) | false => none
def Tryi143 : Iters := fun f => match Nat.beq f 348 with | true => some TryI348 | false => none
def TryF143 : Fun := funM Tryz.prog TryG (fun _ => true) Trye143 Tryi143 Tryp143 lf Tryz.f143
theorem Tryc143 : CallOk Tryz.prog TryG 143 TryF143 := funM_ok Trymix (callsOk_cons Tryc249 (callsOk_cons Tryc250 callsOk_0)) (itersOk_cons Tryj348 itersOk_0) Tryz.func143 (by kernel_rfl)
def Trye142 : FuncId → Option Fun := fun f => match Nat.beq f 143 with | true => some TryF143 | false => match Nat.beq f 144 with | true => some TryF144 | false => none
def Tryp142 : Plans := fun id => none
def TryF142 : Fun := funX Tryz.prog TryG (fun _ => true) Trye142 Tryp142 lf Tryz.f142
theorem Tryc142 : CallOk Tryz.prog TryG 142 TryF142 := funX_ok Trymix (callsOk_cons Tryc143 (callsOk_cons Tryc144 callsOk_0)) Tryz.func142 (by kernel_rfl)
def Trye53 : FuncId → Option Fun := fun f => match Nat.beq f 142 with | true => some TryF142 | false => none
def Tryp53 : Plans := fun id => none
def TryF53 : Fun := funX Tryz.prog TryG (fun _ => true) Trye53 Tryp53 lf Tryz.f53
theorem Tryc53 : CallOk Tryz.prog TryG 53 TryF53 := funX_ok Trymix (callsOk_cons Tryc142 callsOk_0) Tryz.func53 (by kernel_rfl)
def Trye14 : FuncId → Option Fun := fun f => match Nat.beq f 47 with | true => some TryF47 | false => match Nat.beq f 48 with | true => some TryF48 | false => match Nat.beq f 49 with | true => some TryF49 | false => match Nat.beq f 50 with | true => some TryF50 | false => match Nat.beq f 52 with | true => some TryF52 | false => match Nat.beq f 53 with | true => some TryF53 | false => match Nat.beq f 54 with | true => some TryF54 | false => match Nat.beq f 55 with | true => some TryF55 | false => match Nat.beq f 56 with | true => some TryF56 | false => none
def Tryp14 : Plans := fun id => match Nat.beq id 11 with | true => some ([0, 1, 3, 7, 15, 0, 32, 96, 224, 480, 1023, 2047], [(0, .pure), (1, .pure), (2, .pure), (3, .read 0), (4, .pure), (5, .pure), (6, .pure), (7, .pure), (8, .pure), (9, .read 0), (10, .pure), (11, .pure)]) | false => match Nat.beq id 12 with | true => some ([0, 1, 0, 4, 12, 28, 60, 0, 128, 384, 896, 2044, 4095, 8191], [(0, .pure), (1, .pure), (2, .pure), (3, .pure), (4, .pure), (5, .pure), (6, .read 0), (7, .pure), (8, .pure), (9, .pure), (10, .read 0), (11, .pure), (12, .pure), (13, .pure)]) | false => match Nat.beq id 19 with | true => some ([0, 1, 3, 7, 0, 0, 48, 0, 0, 0, 0, 0, 4095, 0, 16383], [(4, .pure), (5, .pure), (6, .heavy), (0, .pure), (1, .pure), (2, .pure), (3, .read 1), (7, .pure), (8, .pure), (9, .pure), (10, .pure), (11, .pure), (12, .pure), (13, .alloc), (14, .heavy)]) | false => match Nat.beq id 26 with | true => some ([0, 1, 0, 0, 12, 28, 63, 127, 255], [(2, .pure), (3, .pure), (4, .heavy), (0, .pure), (1, .read 1), (5, .alloc), (6, .heavy), (7, .pure), (8, .heavy)]) | false => match Nat.beq id 28 with | true => some ([0, 0, 2, 6, 14, 0, 32, 126, 255, 511, 1023], [(1, .pure), (2, .pure), (3, .pure), (4, .read 0), (5, .read 0), (6, .alloc), (7, .heavy), (0, .pure), (8, .pure), (9, .pure), (10, .heavy)]) | false => match Nat.beq id 30 with | true => some ([0, 1, 3, 7, 0, 0, 0, 112, 0, 0, 512, 1792, 0, 0, 8192, 0, 61440, 130816, 262128, 524287], [(4, .pure), (5, .pure), (6, .pure), (7, .heavy), (8, .pure), (9, .pure), (10, .read 1), (11, .pure), (12, .pure), (13, .pure), (14, .read 1), (15, .pure), (16, .pure), (17, .alloc), (18, .heavy), (0, .pure), (1, .pure), (2, .pure), (3, .read 2), (19, .heavy)]) | false => none
def TryF14 : Fun := funX Tryz.prog TryG (fun _ => true) Trye14 Tryp14 lf Tryz.f14
theorem Tryc14 : CallOk Tryz.prog TryG 14 TryF14 := funX_ok Trymix (callsOk_cons Tryc47 (callsOk_cons Tryc48 (callsOk_cons Tryc49 (callsOk_cons Tryc50 (callsOk_cons Tryc52 (callsOk_cons Tryc53 (callsOk_cons Tryc54 (callsOk_cons Tryc55 (callsOk_cons Tryc56 callsOk_0))))))))) Tryz.func14 (by kernel_rfl)
def Trye7 : FuncId → Option Fun := fun f => match Nat.beq f 14 with | true => some TryF14 | false => match Nat.beq f 18 with | true => some TryF18 | false => match Nat.beq f 19 with | true => some TryF19 | false => match Nat.beq f 20 with | true => some TryF20 | false => none
def Tryp7 : Plans := fun id => none
def TryF7 : Fun := funX Tryz.prog TryG (fun _ => true) Trye7 Tryp7 lf Tryz.f7
theorem Tryc7 : CallOk Tryz.prog TryG 7 TryF7 := funX_ok Trymix (callsOk_cons Tryc14 (callsOk_cons Tryc18 (callsOk_cons Tryc19 (callsOk_cons Tryc20 callsOk_0)))) Tryz.func7 (by kernel_rfl)
def Trye401 : FuncId → Option Fun := fun f => match Nat.beq f 146 with | true => some TryF146 | false => match Nat.beq f 326 with | true => some TryF326 | false => match Nat.beq f 402 with | true => some TryF402 | false => match Nat.beq f 478 with | true => some TryF478 | false => none
def Tryp401 : Plans := fun id => match Nat.beq id 2 with | true => some ([0, 1, 3, 7, 0, 16, 48, 112, 255, 511, 1023, 0, 4095], [(0, .pure), (1, .pure), (2, .pure), (3, .read 0), (4, .pure), (5, .pure), (6, .pure), (7, .read 0), (8, .pure), (9, .read 0), (10, .pure), (11, .alloc), (12, .heavy)]) | false => match Nat.beq id 17 with | true => some ([0, 0, 2, 6, 14, 30, 31, 127], [(1, .pure), (2, .pure), (3, .pure), (4, .heavy), (0, .read 1), (6, .heavy), (5, .pure), (7, .pure)]) | false => none
def TryF401 : Fun := funX Tryz.prog TryG (fun _ => true) Trye401 Tryp401 lf Tryz.f401
theorem Tryc401 : CallOk Tryz.prog TryG 401 TryF401 := funX_ok Trymix (callsOk_cons Tryc146 (callsOk_cons Tryc326 (callsOk_cons Tryc402 (callsOk_cons Tryc478 callsOk_0)))) Tryz.func401 (by kernel_rfl)
def Trye325 : FuncId → Option Fun := fun f => match Nat.beq f 401 with | true => some TryF401 | false => match Nat.beq f 402 with | true => some TryF402 | false => none
def Tryp325 : Plans := fun id => none
def TryF325 : Fun := funX Tryz.prog TryG (fun _ => true) Trye325 Tryp325 lf Tryz.f325
theorem Tryc325 : CallOk Tryz.prog TryG 325 TryF325 := funX_ok Trymix (callsOk_cons Tryc401 (callsOk_cons Tryc402 callsOk_0)) Tryz.func325 (by kernel_rfl)
def Trye235 : FuncId → Option Fun := fun f => match Nat.beq f 325 with | true => some TryF325 | false => match Nat.beq f 326 with | true => some TryF326 | false => none
def Tryp235 : Plans := fun id => match Nat.beq id 10 with | true => some ([0, 0, 2, 6, 14, 30, 62, 126, 254, 510, 1022, 2046, 254, 4350, 16382, 32766, 255, 131071], [(1, .pure), (2, .pure), (3, .pure), (4, .heavy), (0, .pure), (5, .pure), (6, .pure), (7, .pure), (8, .pure), (9, .pure), (10, .pure), (11, .read 0), (12, .pure), (13, .pure), (14, .pure), (15, .pure), (16, .pure), (17, .pure)]) | false => none
def TryF235 : Fun := funX Tryz.prog TryG (fun _ => true) Trye235 Tryp235 lf Tryz.f235
theorem Tryc235 : CallOk Tryz.prog TryG 235 TryF235 := funX_ok Trymix (callsOk_cons Tryc325 (callsOk_cons Tryc326 callsOk_0)) Tryz.func235 (by kernel_rfl)
def TryF359 : Fun := noZero 5
theorem Tryc359 : CallOk Tryz.prog TryG 359 TryF359 := noZero_ok (ps := Tryz.f359.params) Tryz.func359 (by kernel_rfl) (by kernel_rfl) (by kernel_rfl) Tryz.underlying78 (by kernel_rfl)
def Trye265 : FuncId → Option Fun := fun f => match Nat.beq f 359 with | true => some TryF359 | false => none
def Tryp265 : Plans := fun id => match Nat.beq id 0 with | true => some ([0, 1, 3, 7, 15, 31, 0, 127, 255, 0, 512, 1536, 3584, 7680, 16383, 32767], [(0, .pure), (1, .pure), (2, .pure), (3, .read 0), (4, .heavy), (5, .pure), (6, .pure), (7, .pure), (8, .heavy), (9, .pure), (10, .pure), (11, .pure), (12, .read 2), (13, .pure), (14, .pure), (15, .pure)]) | false => none
def TryF265 : Fun := funX Tryz.prog TryG (fun _ => true) Trye265 Tryp265 lf Tryz.f265
theorem Tryc265 : CallOk Tryz.prog TryG 265 TryF265 := funX_ok Trymix (callsOk_cons Tryc359 callsOk_0) Tryz.func265 (by kernel_rfl)
def Trye169 : FuncId → Option Fun := fun f => match Nat.beq f 237 with | true => some TryF237 | false => match Nat.beq f 265 with | true => some TryF265 | false => none
def Tryp169 : Plans := fun id => match Nat.beq id 3 with | true => some ([0, 1, 3, 7, 15, 0, 32, 96, 224, 480, 1023, 0, 4095], [(0, .pure), (1, .pure), (2, .pure), (3, .read 0), (4, .heavy), (5, .pure), (6, .pure), (7, .pure), (8, .read 1), (9, .pure), (10, .pure), (11, .pure), (12, .pure)]) | false => none
def TryF169 : Fun := funX Tryz.prog TryG (fun _ => true) Trye169 Tryp169 lf Tryz.f169
theorem Tryc169 : CallOk Tryz.prog TryG 169 TryF169 := funX_ok Trymix (callsOk_cons Tryc237 (callsOk_cons Tryc265 callsOk_0)) Tryz.func169 (by kernel_rfl)
def Trye83 : FuncId → Option Fun := fun f => match Nat.beq f 128 with | true => some TryF128 | false => match Nat.beq f 130 with | true => some TryF130 | false => match Nat.beq f 169 with | true => some TryF169 | false => none
def Tryp83 : Plans := fun id => none
def TryF83 : Fun := funX Tryz.prog TryG (fun _ => true) Trye83 Tryp83 lf Tryz.f83
theorem Tryc83 : CallOk Tryz.prog TryG 83 TryF83 := funX_ok Trymix (callsOk_cons Tryc128 (callsOk_cons Tryc130 (callsOk_cons Tryc169 callsOk_0))) Tryz.func83 (by kernel_rfl)
def Trye62 : FuncId → Option Fun := fun f => match Nat.beq f 83 with | true => some TryF83 | false => match Nat.beq f 128 with | true => some TryF128 | false => none
def Tryp62 : Plans := fun id => match Nat.beq id 0 with | true => some ([0, 1, 3, 0, 8, 31], [(3, .pure), (4, .heavy), (0, .pure), (1, .pure), (2, .pure), (5, .heavy)]) | false => none
def TryF62 : Fun := funX Tryz.prog TryG (fun _ => true) Trye62 Tryp62 lf Tryz.f62
theorem Tryc62 : CallOk Tryz.prog TryG 62 TryF62 := funX_ok Trymix (callsOk_cons Tryc83 (callsOk_cons Tryc128 callsOk_0)) Tryz.func62 (by kernel_rfl)
def Trye46 : FuncId → Option Fun := fun f => match Nat.beq f 62 with | true => some TryF62 | false => match Nat.beq f 124 with | true => some TryF124 | false => match Nat.beq f 125 with | true => some TryF125 | false => match Nat.beq f 126 with | true => some TryF126 | false => match Nat.beq f 127 with | true => some TryF127 | false => match Nat.beq f 128 with | true => some TryF128 | false => match Nat.beq f 129 with | true => some TryF129 | false => match Nat.beq f 130 with | true => some TryF130 | false => none
def Tryp46 : Plans := fun id => match Nat.beq id 16 with | true => some ([0, 1, 3, 0, 8, 24, 56, 0, 0, 256, 768, 2040, 4095], [(3, .pure), (4, .pure), (5, .pure), (6, .read 0), (7, .pure), (8, .pure), (9, .read 0), (10, .pure), (11, .heavy), (0, .pure), (1, .pure), (2, .pure), (12, .heavy)]) | false => match Nat.beq id 20 with | true => some ([0, 1, 3, 7, 0, 16, 48, 15, 255], [(0, .pure), (1, .pure), (2, .pure), (3, .heavy), (4, .pure), (5, .read 1), (6, .pure), (7, .pure), (8, .pure)]) | false => none
def TryF46 : Fun := funX Tryz.prog TryG (fun _ => true) Trye46 Tryp46 lf Tryz.f46
theorem Tryc46 : CallOk Tryz.prog TryG 46 TryF46 := funX_ok Trymix (callsOk_cons Tryc62 (callsOk_cons Tryc124 (callsOk_cons Tryc125 (callsOk_cons Tryc126 (callsOk_cons Tryc127 (callsOk_cons Tryc128 (callsOk_cons Tryc129 (callsOk_cons Tryc130 callsOk_0)))))))) Tryz.func46 (by kernel_rfl)
def Trye399 : FuncId → Option Fun := fun f => none
def Tryp399 : Plans := fun id => none
def TryF399 : Fun := funX Tryz.prog TryG (fun _ => true) Trye399 Tryp399 lf Tryz.f399
theorem Tryc399 : CallOk Tryz.prog TryG 399 TryF399 := funX_ok Trymix callsOk_0 Tryz.func399 (by kernel_rfl)
def Trye321 : FuncId → Option Fun := fun f => match Nat.beq f 399 with | true => some TryF399 | false => none
def Tryp321 : Plans := fun id => none
def TryF321 : Fun := funX Tryz.prog TryG (fun _ => true) Trye321 Tryp321 lf Tryz.f321
theorem Tryc321 : CallOk Tryz.prog TryG 321 TryF321 := funX_ok Trymix (callsOk_cons Tryc399 callsOk_0) Tryz.func321 (by kernel_rfl)
def Trye225 : FuncId → Option Fun := fun f => match Nat.beq f 321 with | true => some TryF321 | false => none
def Tryp225 : Plans := fun id => none
def TryF225 : Fun := funX Tryz.prog TryG (fun _ => true) Trye225 Tryp225 lf Tryz.f225
theorem Tryc225 : CallOk Tryz.prog TryG 225 TryF225 := funX_ok Trymix (callsOk_cons Tryc321 callsOk_0) Tryz.func225 (by kernel_rfl)
def Trye234 : FuncId → Option Fun := fun f => match Nat.beq f 149 with | true => some TryF149 | false => match Nat.beq f 225 with | true => some TryF225 | false => none
def Tryp234 : Plans := fun id => none
def TryF234 : Fun := funX Tryz.prog TryG (fun _ => true) Trye234 Tryp234 lf Tryz.f234
theorem Tryc234 : CallOk Tryz.prog TryG 234 TryF234 := funX_ok Trymix (callsOk_cons Tryc149 (callsOk_cons Tryc225 callsOk_0)) Tryz.func234 (by kernel_rfl)
def Trye324 : FuncId → Option Fun := fun f => match Nat.beq f 399 with | true => some TryF399 | false => none
def Tryp324 : Plans := fun id => none
def TryF324 : Fun := funX Tryz.prog TryG (fun _ => true) Trye324 Tryp324 lf Tryz.f324
theorem Tryc324 : CallOk Tryz.prog TryG 324 TryF324 := funX_ok Trymix (callsOk_cons Tryc399 callsOk_0) Tryz.func324 (by kernel_rfl)
def Trye233 : FuncId → Option Fun := fun f => match Nat.beq f 324 with | true => some TryF324 | false => none
def Tryp233 : Plans := fun id => none
def TryF233 : Fun := funX Tryz.prog TryG (fun _ => true) Trye233 Tryp233 lf Tryz.f233
theorem Tryc233 : CallOk Tryz.prog TryG 233 TryF233 := funX_ok Trymix (callsOk_cons Tryc324 callsOk_0) Tryz.func233 (by kernel_rfl)
def Trye122 : FuncId → Option Fun := fun f => match Nat.beq f 123 with | true => some TryF123 | false => match Nat.beq f 233 with | true => some TryF233 | false => match Nat.beq f 234 with | true => some TryF234 | false => match Nat.beq f 235 with | true => some TryF235 | false => none
def Tryp122 : Plans := fun id => match Nat.beq id 5 with | true => some ([0, 1, 3, 7, 0, 16, 63, 0, 128, 384, 896, 2047, 4095, 8191, 8191, 16383, 65535], [(0, .pure), (1, .pure), (2, .pure), (3, .read 0), (4, .pure), (5, .alloc), (6, .heavy), (7, .pure), (8, .pure), (9, .pure), (10, .read 1), (11, .heavy), (12, .pure), (13, .pure), (14, .pure), (15, .pure), (16, .pure)]) | false => match Nat.beq id 10 with | true => some ([0, 0, 2, 6, 14, 0, 32, 96, 224, 510, 1023], [(0, .pure), (1, .pure), (2, .pure), (3, .pure), (4, .read 0), (5, .pure), (6, .pure), (7, .pure), (8, .read 0), (9, .pure), (10, .pure)]) | false => none
def TryF122 : Fun := funX Tryz.prog TryG (fun _ => true) Trye122 Tryp122 lf Tryz.f122
theorem Tryc122 : CallOk Tryz.prog TryG 122 TryF122 := funX_ok Trymix (callsOk_cons Tryc123 (callsOk_cons Tryc233 (callsOk_cons Tryc234 (callsOk_cons Tryc235 callsOk_0)))) Tryz.func122 (by kernel_rfl)
def Trye45 : FuncId → Option Fun := fun f => match Nat.beq f 122 with | true => some TryF122 | false => none
def Tryp45 : Plans := fun id => match Nat.beq id 10 with | true => some ([0, 1, 3, 7, 0, 16, 48, 112, 240, 511, 1023], [(0, .pure), (1, .pure), (2, .pure), (3, .read 0), (4, .pure), (5, .pure), (6, .pure), (7, .read 0), (8, .pure), (9, .pure), (10, .pure)]) | false => none
def TryF45 : Fun := funX Tryz.prog TryG (fun _ => true) Trye45 Tryp45 lf Tryz.f45
theorem Tryc45 : CallOk Tryz.prog TryG 45 TryF45 := funX_ok Trymix (callsOk_cons Tryc122 callsOk_0) Tryz.func45 (by kernel_rfl)
def Trye11 : FuncId → Option Fun := fun f => match Nat.beq f 44 with | true => some TryF44 | false => match Nat.beq f 45 with | true => some TryF45 | false => match Nat.beq f 46 with | true => some TryF46 | false => none
def Tryp11 : Plans := fun id => none
def TryF11 : Fun := funX Tryz.prog TryG (fun _ => true) Trye11 Tryp11 lf Tryz.f11
theorem Tryc11 : CallOk Tryz.prog TryG 11 TryF11 := funX_ok Trymix (callsOk_cons Tryc44 (callsOk_cons Tryc45 (callsOk_cons Tryc46 callsOk_0))) Tryz.func11 (by kernel_rfl)
def Trye6 : FuncId → Option Fun := fun f => match Nat.beq f 8 with | true => some TryF8 | false => match Nat.beq f 11 with | true => some TryF11 | false => match Nat.beq f 18 with | true => some TryF18 | false => match Nat.beq f 19 with | true => some TryF19 | false => match Nat.beq f 20 with | true => some TryF20 | false => match Nat.beq f 21 with | true => some TryF21 | false => none
def Tryp6 : Plans := fun id => none
def TryF6 : Fun := funX Tryz.prog TryG (fun _ => true) Trye6 Tryp6 lf Tryz.f6
theorem Tryc6 : CallOk Tryz.prog TryG 6 TryF6 := funX_ok Trymix (callsOk_cons Tryc8 (callsOk_cons Tryc11 (callsOk_cons Tryc18 (callsOk_cons Tryc19 (callsOk_cons Tryc20 (callsOk_cons Tryc21 callsOk_0)))))) Tryz.func6 (by kernel_rfl)
end Go.Proofs.ImW
