/- Part of the value machine, or of a walk by it: lemmas that the claim's last text uses. No conditions. -/
import Derived.Test.YtlafgccdobeinaaGreatDoorChecked
import Derived.KernelRfl
import Derived.Test.YtlafgccdobeinaaGreatDoorEVmE
import Derived.Test.YtlafgccdobeinaaGreatDoorEVmH
import Derived.Test.YtlafgccdobeinaaGreatDoorEVmJ
import Derived.Test.YtlafgccdobeinaaGreatDoorEVmK
import Derived.Test.YtlafgccdobeinaaGreatDoorEVmM
set_option linter.unusedVariables false
set_option linter.unusedSimpArgs false
set_option linter.unnecessarySimpa false
noncomputable section
namespace Go.Proofs.ImS
open Go Go.Proofs Go.Vm
set_option linter.unusedVariables false
set_option maxRecDepth 100000
set_option maxHeartbeats 4000000
theorem Trymix : Tryz.prog.follows .mixedOrders = true := Tryz.checked.mixed
def TryG : Nat := 7
def Trye17 : FuncId → Option Fun := fun f => none
def Tryp17 : Plans := fun id => none
def TryF17 : Fun := funX Tryz.prog TryG (fun _ => true) Trye17 Tryp17 lf Tryz.f17
theorem Tryc17 : CallOk Tryz.prog TryG 17 TryF17 := funX_ok Trymix callsOk_0 Tryz.func17 (by kernel_rfl)
def Trye8 : FuncId → Option Fun := fun f => none
def Tryp8 : Plans := fun id => none
def TryF8 : Fun := funX Tryz.prog TryG (fun _ => true) Trye8 Tryp8 lf Tryz.f8
theorem Tryc8 : CallOk Tryz.prog TryG 8 TryF8 := funX_ok Trymix callsOk_0 Tryz.func8 (by kernel_rfl)
def Trye19 : FuncId → Option Fun := fun f => none
def Tryp19 : Plans := fun id => none
def TryF19 : Fun := funX Tryz.prog TryG (fun _ => true) Trye19 Tryp19 lf Tryz.f19
theorem Tryc19 : CallOk Tryz.prog TryG 19 TryF19 := funX_ok Trymix callsOk_0 Tryz.func19 (by kernel_rfl)
def Trye20 : FuncId → Option Fun := fun f => none
def Tryp20 : Plans := fun id => none
def TryF20 : Fun := funX Tryz.prog TryG (fun _ => true) Trye20 Tryp20 lf Tryz.f20
theorem Tryc20 : CallOk Tryz.prog TryG 20 TryF20 := funX_ok Trymix callsOk_0 Tryz.func20 (by kernel_rfl)
def Trye21 : FuncId → Option Fun := fun f => none
def Tryp21 : Plans := fun id => none
def TryF21 : Fun := funX Tryz.prog TryG (fun _ => true) Trye21 Tryp21 lf Tryz.f21
theorem Tryc21 : CallOk Tryz.prog TryG 21 TryF21 := funX_ok Trymix callsOk_0 Tryz.func21 (by kernel_rfl)
def Trye44 : FuncId → Option Fun := fun f => none
def Tryp44 : Plans := fun id => none
def TryF44 : Fun := funX Tryz.prog TryG (fun _ => true) Trye44 Tryp44 lf Tryz.f44
theorem Tryc44 : CallOk Tryz.prog TryG 44 TryF44 := funX_ok Trymix callsOk_0 Tryz.func44 (by kernel_rfl)
def Trye55 : FuncId → Option Fun := fun f => none
def Tryp55 : Plans := fun id => match Nat.beq id 5 with | true => some ([0, 1, 3, 7, 15, 7, 39, 103, 231, 7, 519, 2023, 4071, 8167, 16383, 32767], [(0, .pure), (1, .pure), (2, .pure), (3, .pure), (4, .read 0), (5, .pure), (6, .pure), (7, .pure), (8, .read 0), (9, .pure), (10, .pure), (11, .pure), (12, .pure), (13, .read 0), (14, .pure), (15, .pure)]) | false => match Nat.beq id 6 with | true => some ([0, 0, 2, 6, 14, 0, 32, 126, 255, 511, 1023], [(1, .pure), (2, .pure), (3, .pure), (4, .read 0), (5, .read 0), (6, .alloc), (7, .heavy), (0, .pure), (8, .pure), (9, .pure), (10, .heavy)]) | false => match Nat.beq id 8 with | true => some ([0, 1, 3, 7, 15, 0, 32, 96, 224, 511, 1023], [(0, .pure), (1, .pure), (2, .pure), (3, .read 0), (4, .pure), (5, .pure), (6, .pure), (7, .pure), (8, .read 0), (9, .pure), (10, .pure)]) | false => none
def TryF55 : Fun := funX Tryz.prog TryG (fun _ => true) Trye55 Tryp55 lf Tryz.f55
theorem Tryc55 : CallOk Tryz.prog TryG 55 TryF55 := funX_ok Trymix callsOk_0 Tryz.func55 (by kernel_rfl)
def Trye59 : FuncId → Option Fun := fun f => none
def Tryp59 : Plans := fun id => none
def TryF59 : Fun := funX Tryz.prog TryG (fun _ => true) Trye59 Tryp59 lf Tryz.f59
theorem Tryc59 : CallOk Tryz.prog TryG 59 TryF59 := funX_ok Trymix callsOk_0 Tryz.func59 (by kernel_rfl)
def Trye63 : FuncId → Option Fun := fun f => none
def Tryp63 : Plans := fun id => none
def TryF63 : Fun := funX Tryz.prog TryG (fun _ => true) Trye63 Tryp63 lf Tryz.f63
theorem Tryc63 : CallOk Tryz.prog TryG 63 TryF63 := funX_ok Trymix callsOk_0 Tryz.func63 (by kernel_rfl)
def Trye64 : FuncId → Option Fun := fun f => none
def Tryp64 : Plans := fun id => none
def TryF64 : Fun := funX Tryz.prog TryG (fun _ => true) Trye64 Tryp64 lf Tryz.f64
theorem Tryc64 : CallOk Tryz.prog TryG 64 TryF64 := funX_ok Trymix callsOk_0 Tryz.func64 (by kernel_rfl)
def Trye25 : FuncId → Option Fun := fun f => match Nat.beq f 63 with | true => some TryF63 | false => match Nat.beq f 64 with | true => some TryF64 | false => none
def Tryp25 : Plans := fun id => match Nat.beq id 5 with | true => some ([0, 1, 3, 0, 8, 31, 63, 127, 255, 511, 127, 1151, 4095, 8191], [(0, .pure), (1, .pure), (2, .read 0), (3, .pure), (4, .read 0), (5, .pure), (6, .pure), (7, .pure), (8, .pure), (9, .read 0), (10, .pure), (11, .read 0), (12, .pure), (13, .pure)]) | false => none
def TryF25 : Fun := funX Tryz.prog TryG (fun _ => true) Trye25 Tryp25 lf Tryz.f25
theorem Tryc25 : CallOk Tryz.prog TryG 25 TryF25 := funX_ok Trymix (callsOk_cons Tryc63 (callsOk_cons Tryc64 callsOk_0)) Tryz.func25 (by kernel_rfl)
def Trye107 : FuncId → Option Fun := fun f => none
def Tryp107 : Plans := fun id => none
def TryF107 : Fun := funX Tryz.prog TryG (fun _ => true) Trye107 Tryp107 lf Tryz.f107
theorem Tryc107 : CallOk Tryz.prog TryG 107 TryF107 := funX_ok Trymix callsOk_0 Tryz.func107 (by kernel_rfl)
def TryF120 : Fun := atomLoad .i64
theorem Tryc120 : CallOk Tryz.prog TryG 120 TryF120 := atomLoad_ok Tryz.func120 (by kernel_rfl) (by kernel_rfl) (by kernel_rfl) .i64 (by kernel_rfl)
def Trye41 : FuncId → Option Fun := fun f => match Nat.beq f 120 with | true => some TryF120 | false => none
def Tryp41 : Plans := fun id => none
def TryF41 : Fun := funX Tryz.prog TryG (fun _ => true) Trye41 Tryp41 lf Tryz.f41
theorem Tryc41 : CallOk Tryz.prog TryG 41 TryF41 := funX_ok Trymix (callsOk_cons Tryc120 callsOk_0) Tryz.func41 (by kernel_rfl)
def Trye9 : FuncId → Option Fun := fun f => match Nat.beq f 41 with | true => some TryF41 | false => none
def Tryp9 : Plans := fun id => none
def TryF9 : Fun := funX Tryz.prog TryG (fun _ => true) Trye9 Tryp9 lf Tryz.f9
theorem Tryc9 : CallOk Tryz.prog TryG 9 TryF9 := funX_ok Trymix (callsOk_cons Tryc41 callsOk_0) Tryz.func9 (by kernel_rfl)
def Trye49 : FuncId → Option Fun := fun f => match Nat.beq f 9 with | true => some TryF9 | false => none
def Tryp49 : Plans := fun id => match Nat.beq id 1 with | true => some ([0, 1, 0, 4, 12, 28, 60, 127, 255], [(0, .pure), (1, .heavy), (2, .pure), (3, .pure), (4, .pure), (5, .pure), (6, .read 1), (7, .pure), (8, .pure)]) | false => none
def TryF49 : Fun := funX Tryz.prog TryG (fun _ => true) Trye49 Tryp49 lf Tryz.f49
theorem Tryc49 : CallOk Tryz.prog TryG 49 TryF49 := funX_ok Trymix (callsOk_cons Tryc9 callsOk_0) Tryz.func49 (by kernel_rfl)
def Trye124 : FuncId → Option Fun := fun f => none
def Tryp124 : Plans := fun id => none
def TryF124 : Fun := funX Tryz.prog TryG (fun _ => true) Trye124 Tryp124 lf Tryz.f124
theorem Tryc124 : CallOk Tryz.prog TryG 124 TryF124 := funX_ok Trymix callsOk_0 Tryz.func124 (by kernel_rfl)
def Trye127 : FuncId → Option Fun := fun f => none
def Tryp127 : Plans := fun id => none
def TryF127 : Fun := funX Tryz.prog TryG (fun _ => true) Trye127 Tryp127 lf Tryz.f127
theorem Tryc127 : CallOk Tryz.prog TryG 127 TryF127 := funX_ok Trymix callsOk_0 Tryz.func127 (by kernel_rfl)
def Trye130 : FuncId → Option Fun := fun f => none
def Tryp130 : Plans := fun id => match Nat.beq id 1 with | true => some ([0, 1, 3, 7, 15, 0, 32, 96, 224, 480, 1023, 2047], [(0, .pure), (1, .pure), (2, .pure), (3, .read 0), (4, .heavy), (5, .pure), (6, .pure), (7, .pure), (8, .read 1), (9, .pure), (10, .heavy), (11, .pure)]) | false => none
def TryF130 : Fun := funX Tryz.prog TryG (fun _ => true) Trye130 Tryp130 lf Tryz.f130
theorem Tryc130 : CallOk Tryz.prog TryG 130 TryF130 := funX_ok Trymix callsOk_0 Tryz.func130 (by kernel_rfl)
def Trye135 : FuncId → Option Fun := fun f => none
def Tryp135 : Plans := fun id => match Nat.beq id 6 with | true => some ([0, 0, 3, 7, 0, 0, 32, 112, 240, 511], [(0, .pure), (1, .pure), (2, .pure), (3, .read 0), (4, .pure), (5, .pure), (6, .pure), (7, .pure), (8, .read 0), (9, .pure)]) | false => match Nat.beq id 11 with | true => some ([0, 0, 3, 7, 0, 0, 32, 112, 240, 511], [(0, .pure), (1, .pure), (2, .pure), (3, .read 0), (4, .pure), (5, .pure), (6, .pure), (7, .pure), (8, .read 0), (9, .pure)]) | false => none
def TryF135 : Fun := funX Tryz.prog TryG (fun _ => true) Trye135 Tryp135 lf Tryz.f135
theorem Tryc135 : CallOk Tryz.prog TryG 135 TryF135 := funX_ok Trymix callsOk_0 Tryz.func135 (by kernel_rfl)
def Trye136 : FuncId → Option Fun := fun f => none
def Tryp136 : Plans := fun id => none
def TryF136 : Fun := funX Tryz.prog TryG (fun _ => true) Trye136 Tryp136 lf Tryz.f136
theorem Tryc136 : CallOk Tryz.prog TryG 136 TryF136 := funX_ok Trymix callsOk_0 Tryz.func136 (by kernel_rfl)
def Trye138 : FuncId → Option Fun := fun f => none
def Tryp138 : Plans := fun id => match Nat.beq id 6 with | true => some ([0, 0, 3, 7, 0, 0, 32, 112, 240, 511], [(0, .pure), (1, .pure), (2, .pure), (3, .read 0), (4, .pure), (5, .pure), (6, .pure), (7, .pure), (8, .read 0), (9, .pure)]) | false => match Nat.beq id 11 with | true => some ([0, 0, 3, 7, 0, 0, 32, 112, 240, 511], [(0, .pure), (1, .pure), (2, .pure), (3, .read 0), (4, .pure), (5, .pure), (6, .pure), (7, .pure), (8, .read 0), (9, .pure)]) | false => none
def TryF138 : Fun := funX Tryz.prog TryG (fun _ => true) Trye138 Tryp138 lf Tryz.f138
theorem Tryc138 : CallOk Tryz.prog TryG 138 TryF138 := funX_ok Trymix callsOk_0 Tryz.func138 (by kernel_rfl)
def Trye145 : FuncId → Option Fun := fun f => none
def Tryp145 : Plans := fun id => none
def TryF145 : Fun := funX Tryz.prog TryG (fun _ => true) Trye145 Tryp145 lf Tryz.f145
theorem Tryc145 : CallOk Tryz.prog TryG 145 TryF145 := funX_ok Trymix callsOk_0 Tryz.func145 (by kernel_rfl)
def Trye57 : FuncId → Option Fun := fun f => match Nat.beq f 107 with | true => some TryF107 | false => match Nat.beq f 145 with | true => some TryF145 | false => none
def Tryp57 : Plans := fun id => match Nat.beq id 1 with | true => some ([0, 1, 3, 0, 8, 31, 31, 127, 255, 511], [(0, .pure), (1, .read 0), (2, .heavy), (3, .pure), (4, .read 1), (5, .heavy), (6, .pure), (7, .heavy), (8, .pure), (9, .heavy)]) | false => none
def TryF57 : Fun := funX Tryz.prog TryG (fun _ => true) Trye57 Tryp57 lf Tryz.f57
theorem Tryc57 : CallOk Tryz.prog TryG 57 TryF57 := funX_ok Trymix (callsOk_cons Tryc107 (callsOk_cons Tryc145 callsOk_0)) Tryz.func57 (by kernel_rfl)
def Trye16 : FuncId → Option Fun := fun f => match Nat.beq f 57 with | true => some TryF57 | false => none
def Tryp16 : Plans := fun id => none
def TryF16 : Fun := funX Tryz.prog TryG (fun _ => true) Trye16 Tryp16 lf Tryz.f16
theorem Tryc16 : CallOk Tryz.prog TryG 16 TryF16 := funX_ok Trymix (callsOk_cons Tryc57 callsOk_0) Tryz.func16 (by kernel_rfl)
def TryF147 : Fun := atomStore
theorem Tryc147 : CallOk Tryz.prog TryG 147 TryF147 := atomStore_ok Tryz.func147 (by kernel_rfl) (by kernel_rfl) (by kernel_rfl) (by kernel_rfl)
def Trye60 : FuncId → Option Fun := fun f => match Nat.beq f 147 with | true => some TryF147 | false => none
def Tryp60 : Plans := fun id => none
def TryF60 : Fun := funX Tryz.prog TryG (fun _ => true) Trye60 Tryp60 lf Tryz.f60
theorem Tryc60 : CallOk Tryz.prog TryG 60 TryF60 := funX_ok Trymix (callsOk_cons Tryc147 callsOk_0) Tryz.func60 (by kernel_rfl)
def Trye243 : FuncId → Option Fun := fun f => match Nat.beq f 60 with | true => some TryF60 | false => none
def Tryp243 : Plans := fun id => match Nat.beq id 3 with | true => some ([0, 0, 2, 6, 14, 0, 32, 126, 255, 511, 1023], [(1, .pure), (2, .pure), (3, .pure), (4, .read 0), (5, .read 0), (6, .alloc), (7, .heavy), (0, .pure), (8, .pure), (9, .pure), (10, .heavy)]) | false => match Nat.beq id 4 with | true => some ([0, 0, 2, 6, 14, 0, 32, 126, 255, 511, 1023], [(0, .pure), (1, .pure), (2, .pure), (3, .pure), (4, .read 0), (5, .pure), (6, .read 0), (7, .pure), (8, .pure), (9, .pure), (10, .heavy)]) | false => none
def TryF243 : Fun := funX Tryz.prog TryG (fun _ => true) Trye243 Tryp243 lf Tryz.f243
theorem Tryc243 : CallOk Tryz.prog TryG 243 TryF243 := funX_ok Trymix (callsOk_cons Tryc60 callsOk_0) Tryz.func243 (by kernel_rfl)
def Trye94 : FuncId → Option Fun := fun f => none
def Tryp94 : Plans := fun id => none
def TryF94 : Fun := funX Tryz.prog TryG (fun _ => true) Trye94 Tryp94 lf Tryz.f94
theorem Tryc94 : CallOk Tryz.prog TryG 94 TryF94 := funX_ok Trymix callsOk_0 Tryz.func94 (by kernel_rfl)
def Trye165 : FuncId → Option Fun := fun f => none
def Tryp165 : Plans := fun id => none
def TryF165 : Fun := funX Tryz.prog TryG (fun _ => true) Trye165 Tryp165 lf Tryz.f165
theorem Tryc165 : CallOk Tryz.prog TryG 165 TryF165 := funX_ok Trymix callsOk_0 Tryz.func165 (by kernel_rfl)
def Trye74 : FuncId → Option Fun := fun f => match Nat.beq f 165 with | true => some TryF165 | false => none
def Tryp74 : Plans := fun id => none
def TryF74 : Fun := funX Tryz.prog TryG (fun _ => true) Trye74 Tryp74 lf Tryz.f74
theorem Tryc74 : CallOk Tryz.prog TryG 74 TryF74 := funX_ok Trymix (callsOk_cons Tryc165 callsOk_0) Tryz.func74 (by kernel_rfl)
def Trye167 : FuncId → Option Fun := fun f => none
def Tryp167 : Plans := fun id => match Nat.beq id 3 with | true => some ([0, 0, 0, 0, 0, 0, 48, 112, 0, 0, 768, 1792, 4083, 8179, 16383, 32767], [(0, .pure), (1, .pure), (4, .pure), (5, .pure), (6, .pure), (7, .read 0), (8, .pure), (9, .pure), (10, .pure), (11, .read 0), (12, .pure), (13, .heavy), (2, .pure), (3, .pure), (14, .pure), (15, .heavy)]) | false => none
def TryF167 : Fun := funX Tryz.prog TryG (fun _ => true) Trye167 Tryp167 lf Tryz.f167
theorem Tryc167 : CallOk Tryz.prog TryG 167 TryF167 := funX_ok Trymix callsOk_0 Tryz.func167 (by kernel_rfl)
def Trye93 : FuncId → Option Fun := fun f => none
def Tryp93 : Plans := fun id => none
def TryF93 : Fun := funX Tryz.prog TryG (fun _ => true) Trye93 Tryp93 lf Tryz.f93
theorem Tryc93 : CallOk Tryz.prog TryG 93 TryF93 := funX_ok Trymix callsOk_0 Tryz.func93 (by kernel_rfl)
def Trye189 : FuncId → Option Fun := fun f => none
def Tryp189 : Plans := fun id => none
def TryF189 : Fun := funX Tryz.prog TryG (fun _ => true) Trye189 Tryp189 lf Tryz.f189
theorem Tryc189 : CallOk Tryz.prog TryG 189 TryF189 := funX_ok Trymix callsOk_0 Tryz.func189 (by kernel_rfl)
def Trye78 : FuncId → Option Fun := fun f => none
def Tryp78 : Plans := fun id => none
def TryF78 : Fun := funX Tryz.prog TryG (fun _ => true) Trye78 Tryp78 lf Tryz.f78
theorem Tryc78 : CallOk Tryz.prog TryG 78 TryF78 := funX_ok Trymix callsOk_0 Tryz.func78 (by kernel_rfl)
def Trye200 : FuncId → Option Fun := fun f => none
def Tryp200 : Plans := fun id => none
def TryF200 : Fun := funX Tryz.prog TryG (fun _ => true) Trye200 Tryp200 lf Tryz.f200
theorem Tryc200 : CallOk Tryz.prog TryG 200 TryF200 := funX_ok Trymix callsOk_0 Tryz.func200 (by kernel_rfl)
def Trye221 : FuncId → Option Fun := fun f => none
def Tryp221 : Plans := fun id => match Nat.beq id 6 with | true => some ([0, 0, 3, 7, 0, 0, 48, 112, 255], [(0, .pure), (1, .pure), (2, .pure), (3, .read 0), (4, .pure), (5, .pure), (6, .pure), (7, .read 0), (8, .pure)]) | false => none
def TryF221 : Fun := funX Tryz.prog TryG (fun _ => true) Trye221 Tryp221 lf Tryz.f221
theorem Tryc221 : CallOk Tryz.prog TryG 221 TryF221 := funX_ok Trymix callsOk_0 Tryz.func221 (by kernel_rfl)
def Trye123 : FuncId → Option Fun := fun f => none
def Tryp123 : Plans := fun id => none
def TryF123 : Fun := funX Tryz.prog TryG (fun _ => true) Trye123 Tryp123 lf Tryz.f123
theorem Tryc123 : CallOk Tryz.prog TryG 123 TryF123 := funX_ok Trymix callsOk_0 Tryz.func123 (by kernel_rfl)
def TryF236 : Fun := atomAdd .i64
theorem Tryc236 : CallOk Tryz.prog TryG 236 TryF236 := atomAdd_ok Tryz.func236 (by kernel_rfl) (by kernel_rfl) (by kernel_rfl) .i64 (by kernel_rfl)
def Trye125 : FuncId → Option Fun := fun f => match Nat.beq f 236 with | true => some TryF236 | false => none
def Tryp125 : Plans := fun id => none
def TryF125 : Fun := funX Tryz.prog TryG (fun _ => true) Trye125 Tryp125 lf Tryz.f125
theorem Tryc125 : CallOk Tryz.prog TryG 125 TryF125 := funX_ok Trymix (callsOk_cons Tryc236 callsOk_0) Tryz.func125 (by kernel_rfl)
def Trye52 : FuncId → Option Fun := fun f => match Nat.beq f 125 with | true => some TryF125 | false => none
def Tryp52 : Plans := fun id => none
def TryF52 : Fun := funX Tryz.prog TryG (fun _ => true) Trye52 Tryp52 lf Tryz.f52
theorem Tryc52 : CallOk Tryz.prog TryG 52 TryF52 := funX_ok Trymix (callsOk_cons Tryc125 callsOk_0) Tryz.func52 (by kernel_rfl)
def Trye23 : FuncId → Option Fun := fun f => none
def Tryp23 : Plans := fun id => none
def TryF23 : Fun := funX Tryz.prog TryG (fun _ => true) Trye23 Tryp23 lf Tryz.f23
theorem Tryc23 : CallOk Tryz.prog TryG 23 TryF23 := funX_ok Trymix callsOk_0 Tryz.func23 (by kernel_rfl)
def Trye144 : FuncId → Option Fun := fun f => none
def Tryp144 : Plans := fun id => none
def TryF144 : Fun := funX Tryz.prog TryG (fun _ => true) Trye144 Tryp144 lf Tryz.f144
theorem Tryc144 : CallOk Tryz.prog TryG 144 TryF144 := funX_ok Trymix callsOk_0 Tryz.func144 (by kernel_rfl)
def Trye312 : FuncId → Option Fun := fun f => match Nat.beq f 144 with | true => some TryF144 | false => none
def Tryp312 : Plans := fun id => none
def TryF312 : Fun := funX Tryz.prog TryG (fun _ => true) Trye312 Tryp312 lf Tryz.f312
theorem Tryc312 : CallOk Tryz.prog TryG 312 TryF312 := funX_ok Trymix (callsOk_cons Tryc144 callsOk_0) Tryz.func312 (by kernel_rfl)
def Trye249 : FuncId → Option Fun := fun f => none
def Tryp249 : Plans := fun id => none
def TryF249 : Fun := funX Tryz.prog TryG (fun _ => true) Trye249 Tryp249 lf Tryz.f249
theorem Tryc249 : CallOk Tryz.prog TryG 249 TryF249 := funX_ok Trymix callsOk_0 Tryz.func249 (by kernel_rfl)
def Trye253 : FuncId → Option Fun := fun f => none
def Tryp253 : Plans := fun id => none
def TryF253 : Fun := funX Tryz.prog TryG (fun _ => true) Trye253 Tryp253 lf Tryz.f253
theorem Tryc253 : CallOk Tryz.prog TryG 253 TryF253 := funX_ok Trymix callsOk_0 Tryz.func253 (by kernel_rfl)
def Trye149 : FuncId → Option Fun := fun f => match Nat.beq f 253 with | true => some TryF253 | false => none
def Tryp149 : Plans := fun id => none
def TryF149 : Fun := funX Tryz.prog TryG (fun _ => true) Trye149 Tryp149 lf Tryz.f149
theorem Tryc149 : CallOk Tryz.prog TryG 149 TryF149 := funX_ok Trymix (callsOk_cons Tryc253 callsOk_0) Tryz.func149 (by kernel_rfl)
def Trye516 : FuncId → Option Fun := fun f => match Nat.beq f 149 with | true => some TryF149 | false => none
def Tryp516 : Plans := fun id => match Nat.beq id 4 with | true => some ([0, 0, 3, 0, 0, 16, 56, 7, 255], [(0, .pure), (1, .pure), (2, .pure), (3, .pure), (4, .pure), (5, .pure), (6, .pure), (7, .pure), (8, .pure)]) | false => none
def TryF516 : Fun := funX Tryz.prog TryG (fun _ => true) Trye516 Tryp516 lf Tryz.f516
theorem Tryc516 : CallOk Tryz.prog TryG 516 TryF516 := funX_ok Trymix (callsOk_cons Tryc149 callsOk_0) Tryz.func516 (by kernel_rfl)
def Trye259 : FuncId → Option Fun := fun f => none
def Tryp259 : Plans := fun id => none
def TryF259 : Fun := funX Tryz.prog TryG (fun _ => true) Trye259 Tryp259 lf Tryz.f259
theorem Tryc259 : CallOk Tryz.prog TryG 259 TryF259 := funX_ok Trymix callsOk_0 Tryz.func259 (by kernel_rfl)
def Trye264 : FuncId → Option Fun := fun f => none
def Tryp264 : Plans := fun id => none
def TryF264 : Fun := funX Tryz.prog TryG (fun _ => true) Trye264 Tryp264 lf Tryz.f264
theorem Tryc264 : CallOk Tryz.prog TryG 264 TryF264 := funX_ok Trymix callsOk_0 Tryz.func264 (by kernel_rfl)
def Trye175 : FuncId → Option Fun := fun f => none
def Tryp175 : Plans := fun id => none
def TryF175 : Fun := funX Tryz.prog TryG (fun _ => true) Trye175 Tryp175 lf Tryz.f175
theorem Tryc175 : CallOk Tryz.prog TryG 175 TryF175 := funX_ok Trymix callsOk_0 Tryz.func175 (by kernel_rfl)
def Trye248 : FuncId → Option Fun := fun f => none
def Tryp248 : Plans := fun id => none
def TryF248 : Fun := funX Tryz.prog TryG (fun _ => true) Trye248 Tryp248 lf Tryz.f248
theorem Tryc248 : CallOk Tryz.prog TryG 248 TryF248 := funX_ok Trymix callsOk_0 Tryz.func248 (by kernel_rfl)
def Trye252 : FuncId → Option Fun := fun f => none
def Tryp252 : Plans := fun id => none
def TryF252 : Fun := funX Tryz.prog TryG (fun _ => true) Trye252 Tryp252 lf Tryz.f252
theorem Tryc252 : CallOk Tryz.prog TryG 252 TryF252 := funX_ok Trymix callsOk_0 Tryz.func252 (by kernel_rfl)
def Trye263 : FuncId → Option Fun := fun f => none
def Tryp263 : Plans := fun id => none
def TryF263 : Fun := funX Tryz.prog TryG (fun _ => true) Trye263 Tryp263 lf Tryz.f263
theorem Tryc263 : CallOk Tryz.prog TryG 263 TryF263 := funX_ok Trymix callsOk_0 Tryz.func263 (by kernel_rfl)
def Trye174 : FuncId → Option Fun := fun f => match Nat.beq f 175 with | true => some TryF175 | false => match Nat.beq f 248 with | true => some TryF248 | false => match Nat.beq f 252 with | true => some TryF252 | false => match Nat.beq f 263 with | true => some TryF263 | false => none
def Tryp174 : Plans := fun id => none
def TryF174 : Fun := funX Tryz.prog TryG (fun _ => true) Trye174 Tryp174 lf Tryz.f174
theorem Tryc174 : CallOk Tryz.prog TryG 174 TryF174 := funX_ok Trymix (callsOk_cons Tryc175 (callsOk_cons Tryc248 (callsOk_cons Tryc252 (callsOk_cons Tryc263 callsOk_0)))) Tryz.func174 (by kernel_rfl)
def Trye80 : FuncId → Option Fun := fun f => match Nat.beq f 74 with | true => some TryF74 | false => match Nat.beq f 174 with | true => some TryF174 | false => none
def Tryp80 : Plans := fun id => none
def TryF80 : Fun := funX Tryz.prog TryG (fun _ => true) Trye80 Tryp80 lf Tryz.f80
theorem Tryc80 : CallOk Tryz.prog TryG 80 TryF80 := funX_ok Trymix (callsOk_cons Tryc74 (callsOk_cons Tryc174 callsOk_0)) Tryz.func80 (by kernel_rfl)
def Trye140 : FuncId → Option Fun := fun f => match Nat.beq f 174 with | true => some TryF174 | false => none
def Tryp140 : Plans := fun id => none
def TryF140 : Fun := funX Tryz.prog TryG (fun _ => true) Trye140 Tryp140 lf Tryz.f140
theorem Tryc140 : CallOk Tryz.prog TryG 140 TryF140 := funX_ok Trymix (callsOk_cons Tryc174 callsOk_0) Tryz.func140 (by kernel_rfl)
def Trye51 : FuncId → Option Fun := fun f => match Nat.beq f 140 with | true => some TryF140 | false => none
def Tryp51 : Plans := fun id => match Nat.beq id 1 with | true => some ([0, 1, 3, 7, 0, 0, 48, 127, 255, 511, 0, 1024, 3072, 7168, 15360, 32767, 65535], [(4, .pure), (5, .pure), (6, .heavy), (0, .pure), (1, .pure), (2, .pure), (3, .read 1), (7, .pure), (8, .pure), (9, .read 0), (10, .pure), (11, .pure), (12, .pure), (13, .pure), (14, .read 1), (15, .pure), (16, .pure)]) | false => none
def TryF51 : Fun := funX Tryz.prog TryG (fun _ => true) Trye51 Tryp51 lf Tryz.f51
theorem Tryc51 : CallOk Tryz.prog TryG 51 TryF51 := funX_ok Trymix (callsOk_cons Tryc140 callsOk_0) Tryz.func51 (by kernel_rfl)
def Trye54 : FuncId → Option Fun := fun f => match Nat.beq f 140 with | true => some TryF140 | false => none
def Tryp54 : Plans := fun id => match Nat.beq id 1 with | true => some ([0, 1, 3, 7, 0, 0, 48, 127, 255], [(4, .pure), (5, .pure), (6, .heavy), (0, .pure), (1, .pure), (2, .pure), (3, .read 1), (7, .pure), (8, .pure)]) | false => none
def TryF54 : Fun := funX Tryz.prog TryG (fun _ => true) Trye54 Tryp54 lf Tryz.f54
theorem Tryc54 : CallOk Tryz.prog TryG 54 TryF54 := funX_ok Trymix (callsOk_cons Tryc140 callsOk_0) Tryz.func54 (by kernel_rfl)
def Trye139 : FuncId → Option Fun := fun f => match Nat.beq f 140 with | true => some TryF140 | false => none
def Tryp139 : Plans := fun id => none
def TryF139 : Fun := funX Tryz.prog TryG (fun _ => true) Trye139 Tryp139 lf Tryz.f139
theorem Tryc139 : CallOk Tryz.prog TryG 139 TryF139 := funX_ok Trymix (callsOk_cons Tryc140 callsOk_0) Tryz.func139 (by kernel_rfl)
def Trye141 : FuncId → Option Fun := fun f => match Nat.beq f 51 with | true => some TryF51 | false => match Nat.beq f 139 with | true => some TryF139 | false => none
def Tryp141 : Plans := fun id => none
def TryF141 : Fun := funX Tryz.prog TryG (fun _ => true) Trye141 Tryp141 lf Tryz.f141
theorem Tryc141 : CallOk Tryz.prog TryG 141 TryF141 := funX_ok Trymix (callsOk_cons Tryc51 (callsOk_cons Tryc139 callsOk_0)) Tryz.func141 (by kernel_rfl)
def Trye50 : FuncId → Option Fun := fun f => match Nat.beq f 141 with | true => some TryF141 | false => none
def Tryp50 : Plans := fun id => none
def TryF50 : Fun := funX Tryz.prog TryG (fun _ => true) Trye50 Tryp50 lf Tryz.f50
theorem Tryc50 : CallOk Tryz.prog TryG 50 TryF50 := funX_ok Trymix (callsOk_cons Tryc141 callsOk_0) Tryz.func50 (by kernel_rfl)
def Trye153 : FuncId → Option Fun := fun f => match Nat.beq f 174 with | true => some TryF174 | false => none
def Tryp153 : Plans := fun id => none
def TryF153 : Fun := funX Tryz.prog TryG (fun _ => true) Trye153 Tryp153 lf Tryz.f153
theorem Tryc153 : CallOk Tryz.prog TryG 153 TryF153 := funX_ok Trymix (callsOk_cons Tryc174 callsOk_0) Tryz.func153 (by kernel_rfl)
def Trye166 : FuncId → Option Fun := fun f => match Nat.beq f 174 with | true => some TryF174 | false => none
def Tryp166 : Plans := fun id => none
def TryF166 : Fun := funX Tryz.prog TryG (fun _ => true) Trye166 Tryp166 lf Tryz.f166
theorem Tryc166 : CallOk Tryz.prog TryG 166 TryF166 := funX_ok Trymix (callsOk_cons Tryc174 callsOk_0) Tryz.func166 (by kernel_rfl)
def Trye191 : FuncId → Option Fun := fun f => none
def Tryp191 : Plans := fun id => none
def TryF191 : Fun := funX Tryz.prog TryG (fun _ => true) Trye191 Tryp191 lf Tryz.f191
theorem Tryc191 : CallOk Tryz.prog TryG 191 TryF191 := funX_ok Trymix callsOk_0 Tryz.func191 (by kernel_rfl)
def Trye318 : FuncId → Option Fun := fun f => none
def Tryp318 : Plans := fun id => none
def TryF318 : Fun := funX Tryz.prog TryG (fun _ => true) Trye318 Tryp318 lf Tryz.f318
theorem Tryc318 : CallOk Tryz.prog TryG 318 TryF318 := funX_ok Trymix callsOk_0 Tryz.func318 (by kernel_rfl)
def Trye190 : FuncId → Option Fun := fun f => match Nat.beq f 191 with | true => some TryF191 | false => match Nat.beq f 318 with | true => some TryF318 | false => none
def Tryp190 : Plans := fun id => none
def TryF190 : Fun := funX Tryz.prog TryG (fun _ => true) Trye190 Tryp190 lf Tryz.f190
theorem Tryc190 : CallOk Tryz.prog TryG 190 TryF190 := funX_ok Trymix (callsOk_cons Tryc191 (callsOk_cons Tryc318 callsOk_0)) Tryz.func190 (by kernel_rfl)
def Trye220 : FuncId → Option Fun := fun f => match Nat.beq f 190 with | true => some TryF190 | false => none
def Tryp220 : Plans := fun id => none
def TryF220 : Fun := funX Tryz.prog TryG (fun _ => true) Trye220 Tryp220 lf Tryz.f220
theorem Tryc220 : CallOk Tryz.prog TryG 220 TryF220 := funX_ok Trymix (callsOk_cons Tryc190 callsOk_0) Tryz.func220 (by kernel_rfl)
def Trye289 : FuncId → Option Fun := fun f => none
def Tryp289 : Plans := fun id => match Nat.beq id 4 with | true => some ([0, 0, 0, 6, 14, 31], [(0, .read 0), (1, .pure), (2, .pure), (3, .pure), (4, .read 0), (5, .pure)]) | false => none
def TryF289 : Fun := funX Tryz.prog TryG (fun _ => true) Trye289 Tryp289 lf Tryz.f289
theorem Tryc289 : CallOk Tryz.prog TryG 289 TryF289 := funX_ok Trymix callsOk_0 Tryz.func289 (by kernel_rfl)
def Trye192 : FuncId → Option Fun := fun f => match Nat.beq f 289 with | true => some TryF289 | false => none
def Tryp192 : Plans := fun id => none
def TryF192 : Fun := funX Tryz.prog TryG (fun _ => true) Trye192 Tryp192 lf Tryz.f192
theorem Tryc192 : CallOk Tryz.prog TryG 192 TryF192 := funX_ok Trymix (callsOk_cons Tryc289 callsOk_0) Tryz.func192 (by kernel_rfl)
def Trye89 : FuncId → Option Fun := fun f => match Nat.beq f 16 with | true => some TryF16 | false => match Nat.beq f 93 with | true => some TryF93 | false => match Nat.beq f 94 with | true => some TryF94 | false => match Nat.beq f 189 with | true => some TryF189 | false => match Nat.beq f 190 with | true => some TryF190 | false => match Nat.beq f 192 with | true => some TryF192 | false => none
def Tryp89 : Plans := fun id => match Nat.beq id 2 with | true => some ([0, 1, 3, 7, 15, 0, 32, 96, 224, 511, 1023, 2047], [(0, .pure), (1, .pure), (2, .pure), (3, .read 0), (4, .heavy), (5, .pure), (6, .pure), (7, .pure), (8, .read 1), (9, .heavy), (10, .pure), (11, .pure)]) | false => match Nat.beq id 8 with | true => some ([0, 1, 3, 7, 7, 31, 63, 127, 7, 263, 775, 1799, 3847, 7, 7, 24583, 57351, 130823, 262143, 524287], [(0, .pure), (1, .pure), (2, .pure), (8, .pure), (9, .pure), (10, .pure), (11, .read 0), (12, .heavy), (3, .pure), (4, .pure), (5, .pure), (6, .pure), (7, .read 1), (13, .pure), (14, .pure), (15, .pure), (16, .read 1), (17, .pure), (18, .heavy), (19, .pure)]) | false => match Nat.beq id 9 with | true => some ([0, 0, 2, 0, 0, 24, 56, 0, 0, 384, 896, 2046, 4094, 8191, 16383], [(0, .pure), (1, .pure), (2, .pure), (3, .pure), (4, .pure), (5, .pure), (6, .read 0), (7, .pure), (8, .pure), (9, .pure), (10, .read 0), (11, .pure), (12, .alloc), (13, .heavy), (14, .pure)]) | false => none
def TryF89 : Fun := funX Tryz.prog TryG (fun _ => true) Trye89 Tryp89 lf Tryz.f89
theorem Tryc89 : CallOk Tryz.prog TryG 89 TryF89 := funX_ok Trymix (callsOk_cons Tryc16 (callsOk_cons Tryc93 (callsOk_cons Tryc94 (callsOk_cons Tryc189 (callsOk_cons Tryc190 (callsOk_cons Tryc192 callsOk_0)))))) Tryz.func89 (by kernel_rfl)
def Trye96 : FuncId → Option Fun := fun f => none
def Tryp96 : Plans := fun id => none
def TryF96 : Fun := funX Tryz.prog TryG (fun _ => true) Trye96 Tryp96 lf Tryz.f96
theorem Tryc96 : CallOk Tryz.prog TryG 96 TryF96 := funX_ok Trymix callsOk_0 Tryz.func96 (by kernel_rfl)
def Trye223 : FuncId → Option Fun := fun f => none
def Tryp223 : Plans := fun id => none
def TryF223 : Fun := funX Tryz.prog TryG (fun _ => true) Trye223 Tryp223 lf Tryz.f223
theorem Tryc223 : CallOk Tryz.prog TryG 223 TryF223 := funX_ok Trymix callsOk_0 Tryz.func223 (by kernel_rfl)
def Trye105 : FuncId → Option Fun := fun f => none
def Tryp105 : Plans := fun id => none
def TryF105 : Fun := funX Tryz.prog TryG (fun _ => true) Trye105 Tryp105 lf Tryz.f105
theorem Tryc105 : CallOk Tryz.prog TryG 105 TryF105 := funX_ok Trymix callsOk_0 Tryz.func105 (by kernel_rfl)
def Trye204 : FuncId → Option Fun := fun f => none
def Tryp204 : Plans := fun id => none
def TryF204 : Fun := funX Tryz.prog TryG (fun _ => true) Trye204 Tryp204 lf Tryz.f204
theorem Tryc204 : CallOk Tryz.prog TryG 204 TryF204 := funX_ok Trymix callsOk_0 Tryz.func204 (by kernel_rfl)
def Trye219 : FuncId → Option Fun := fun f => match Nat.beq f 105 with | true => some TryF105 | false => match Nat.beq f 204 with | true => some TryF204 | false => none
def Tryp219 : Plans := fun id => none
def TryF219 : Fun := funX Tryz.prog TryG (fun _ => true) Trye219 Tryp219 lf Tryz.f219
theorem Tryc219 : CallOk Tryz.prog TryG 219 TryF219 := funX_ok Trymix (callsOk_cons Tryc105 (callsOk_cons Tryc204 callsOk_0)) Tryz.func219 (by kernel_rfl)
def Trye104 : FuncId → Option Fun := fun f => match Nat.beq f 219 with | true => some TryF219 | false => none
def Tryp104 : Plans := fun id => none
def TryF104 : Fun := funX Tryz.prog TryG (fun _ => true) Trye104 Tryp104 lf Tryz.f104
theorem Tryc104 : CallOk Tryz.prog TryG 104 TryF104 := funX_ok Trymix (callsOk_cons Tryc219 callsOk_0) Tryz.func104 (by kernel_rfl)
def Trye101 : FuncId → Option Fun := fun f => match Nat.beq f 104 with | true => some TryF104 | false => none
def Tryp101 : Plans := fun id => none
def TryF101 : Fun := funX Tryz.prog TryG (fun _ => true) Trye101 Tryp101 lf Tryz.f101
theorem Tryc101 : CallOk Tryz.prog TryG 101 TryF101 := funX_ok Trymix (callsOk_cons Tryc104 callsOk_0) Tryz.func101 (by kernel_rfl)
def Trye326 : FuncId → Option Fun := fun f => none
def Tryp326 : Plans := fun id => match Nat.beq id 1 with | true => some ([0, 1, 3, 7, 0, 16, 48, 112, 255, 511, 0, 1024, 3072, 7168, 16383, 32767], [(0, .pure), (1, .pure), (2, .pure), (3, .read 0), (4, .pure), (5, .pure), (6, .pure), (7, .read 0), (8, .pure), (9, .read 0), (10, .pure), (11, .pure), (12, .pure), (13, .read 0), (14, .pure), (15, .pure)]) | false => none
def TryF326 : Fun := funX Tryz.prog TryG (fun _ => true) Trye326 Tryp326 lf Tryz.f326
theorem Tryc326 : CallOk Tryz.prog TryG 326 TryF326 := funX_ok Trymix callsOk_0 Tryz.func326 (by kernel_rfl)
def Trye402 : FuncId → Option Fun := fun f => match Nat.beq f 326 with | true => some TryF326 | false => none
def Tryp402 : Plans := fun id => none
def TryF402 : Fun := funX Tryz.prog TryG (fun _ => true) Trye402 Tryp402 lf Tryz.f402
theorem Tryc402 : CallOk Tryz.prog TryG 402 TryF402 := funX_ok Trymix (callsOk_cons Tryc326 callsOk_0) Tryz.func402 (by kernel_rfl)
def Trye478 : FuncId → Option Fun := fun f => match Nat.beq f 326 with | true => some TryF326 | false => none
def Tryp478 : Plans := fun id => match Nat.beq id 1 with | true => some ([0, 1, 3, 7, 15, 31, 63, 127, 15, 271, 783, 1807, 3855, 8191, 16383, 32767], [(0, .pure), (1, .heavy), (2, .pure), (3, .pure), (4, .pure), (5, .pure), (6, .pure), (7, .read 0), (8, .pure), (9, .pure), (10, .pure), (11, .read 0), (12, .pure), (13, .pure), (14, .pure), (15, .pure)]) | false => none
def TryF478 : Fun := funX Tryz.prog TryG (fun _ => true) Trye478 Tryp478 lf Tryz.f478
theorem Tryc478 : CallOk Tryz.prog TryG 478 TryF478 := funX_ok Trymix (callsOk_cons Tryc326 callsOk_0) Tryz.func478 (by kernel_rfl)
def TryF327 : Fun := sameF
theorem Tryc327 : CallOk Tryz.prog TryG 327 TryF327 := sameF_ok Tryz.func327 (by kernel_rfl) (by kernel_rfl) (by kernel_rfl) (by kernel_rfl)
def Trye237 : FuncId → Option Fun := fun f => match Nat.beq f 327 with | true => some TryF327 | false => none
def Tryp237 : Plans := fun id => none
def TryF237 : Fun := funX Tryz.prog TryG (fun _ => true) Trye237 Tryp237 lf Tryz.f237
theorem Tryc237 : CallOk Tryz.prog TryG 237 TryF237 := funX_ok Trymix (callsOk_cons Tryc327 callsOk_0) Tryz.func237 (by kernel_rfl)
def Trye128 : FuncId → Option Fun := fun f => match Nat.beq f 237 with | true => some TryF237 | false => none
def Tryp128 : Plans := fun id => none
def TryF128 : Fun := funX Tryz.prog TryG (fun _ => true) Trye128 Tryp128 lf Tryz.f128
theorem Tryc128 : CallOk Tryz.prog TryG 128 TryF128 := funX_ok Trymix (callsOk_cons Tryc237 callsOk_0) Tryz.func128 (by kernel_rfl)
def Trye170 : FuncId → Option Fun := fun f => match Nat.beq f 237 with | true => some TryF237 | false => none
def Tryp170 : Plans := fun id => none
def TryF170 : Fun := funX Tryz.prog TryG (fun _ => true) Trye170 Tryp170 lf Tryz.f170
theorem Tryc170 : CallOk Tryz.prog TryG 170 TryF170 := funX_ok Trymix (callsOk_cons Tryc237 callsOk_0) Tryz.func170 (by kernel_rfl)
def Trye241 : FuncId → Option Fun := fun f => none
def Tryp241 : Plans := fun id => none
def TryF241 : Fun := funX Tryz.prog TryG (fun _ => true) Trye241 Tryp241 lf Tryz.f241
theorem Tryc241 : CallOk Tryz.prog TryG 241 TryF241 := funX_ok Trymix callsOk_0 Tryz.func241 (by kernel_rfl)
def Trye240 : FuncId → Option Fun := fun f => match Nat.beq f 241 with | true => some TryF241 | false => none
def Tryp240 : Plans := fun id => none
def TryF240 : Fun := funX Tryz.prog TryG (fun _ => true) Trye240 Tryp240 lf Tryz.f240
theorem Tryc240 : CallOk Tryz.prog TryG 240 TryF240 := funX_ok Trymix (callsOk_cons Tryc241 callsOk_0) Tryz.func240 (by kernel_rfl)
def Trye239 : FuncId → Option Fun := fun f => match Nat.beq f 240 with | true => some TryF240 | false => none
def Tryp239 : Plans := fun id => none
def TryF239 : Fun := funX Tryz.prog TryG (fun _ => true) Trye239 Tryp239 lf Tryz.f239
theorem Tryc239 : CallOk Tryz.prog TryG 239 TryF239 := funX_ok Trymix (callsOk_cons Tryc240 callsOk_0) Tryz.func239 (by kernel_rfl)
def Trye338 : FuncId → Option Fun := fun f => none
def Tryp338 : Plans := fun id => none
def TryF338 : Fun := funX Tryz.prog TryG (fun _ => true) Trye338 Tryp338 lf Tryz.f338
theorem Tryc338 : CallOk Tryz.prog TryG 338 TryF338 := funX_ok Trymix callsOk_0 Tryz.func338 (by kernel_rfl)
def Trye246 : FuncId → Option Fun := fun f => match Nat.beq f 338 with | true => some TryF338 | false => none
def Tryp246 : Plans := fun id => none
def TryF246 : Fun := funX Tryz.prog TryG (fun _ => true) Trye246 Tryp246 lf Tryz.f246
theorem Tryc246 : CallOk Tryz.prog TryG 246 TryF246 := funX_ok Trymix (callsOk_cons Tryc338 callsOk_0) Tryz.func246 (by kernel_rfl)
def Trye339 : FuncId → Option Fun := fun f => none
def Tryp339 : Plans := fun id => match Nat.beq id 4 with | true => some ([0, 0, 3, 7, 15, 15, 63, 127, 15, 15, 527, 1807, 3855, 8191, 16383], [(0, .pure), (1, .pure), (2, .pure), (3, .pure), (4, .pure), (5, .pure), (6, .pure), (7, .read 0), (8, .pure), (9, .pure), (10, .pure), (11, .pure), (12, .read 0), (13, .heavy), (14, .pure)]) | false => match Nat.beq id 6 with | true => some ([0, 0, 0, 0, 8, 0, 0, 64, 224, 480, 0, 0, 3072, 7168, 16355, 32739, 65535, 131071], [(0, .pure), (1, .pure), (5, .pure), (6, .pure), (7, .pure), (8, .pure), (9, .read 0), (10, .pure), (11, .pure), (12, .pure), (13, .read 0), (14, .pure), (15, .heavy), (2, .pure), (3, .pure), (4, .pure), (16, .pure), (17, .heavy)]) | false => none
def TryF339 : Fun := funX Tryz.prog TryG (fun _ => true) Trye339 Tryp339 lf Tryz.f339
theorem Tryc339 : CallOk Tryz.prog TryG 339 TryF339 := funX_ok Trymix callsOk_0 Tryz.func339 (by kernel_rfl)
def Trye247 : FuncId → Option Fun := fun f => match Nat.beq f 339 with | true => some TryF339 | false => none
def Tryp247 : Plans := fun id => match Nat.beq id 17 with | true => some ([0, 1, 3, 7, 7, 23, 63, 127, 7, 7, 775, 1799, 4095, 8191, 16383], [(0, .pure), (1, .pure), (2, .pure), (3, .pure), (4, .pure), (5, .pure), (6, .pure), (7, .read 0), (8, .pure), (9, .pure), (10, .pure), (11, .read 0), (12, .heavy), (13, .pure), (14, .pure)]) | false => none
def TryF247 : Fun := funX Tryz.prog TryG (fun _ => true) Trye247 Tryp247 lf Tryz.f247
theorem Tryc247 : CallOk Tryz.prog TryG 247 TryF247 := funX_ok Trymix (callsOk_cons Tryc339 callsOk_0) Tryz.func247 (by kernel_rfl)
def Trye137 : FuncId → Option Fun := fun f => match Nat.beq f 246 with | true => some TryF246 | false => match Nat.beq f 247 with | true => some TryF247 | false => none
def Tryp137 : Plans := fun id => none
def TryF137 : Fun := funX Tryz.prog TryG (fun _ => true) Trye137 Tryp137 lf Tryz.f137
theorem Tryc137 : CallOk Tryz.prog TryG 137 TryF137 := funX_ok Trymix (callsOk_cons Tryc246 (callsOk_cons Tryc247 callsOk_0)) Tryz.func137 (by kernel_rfl)
def Trye48 : FuncId → Option Fun := fun f => match Nat.beq f 50 with | true => some TryF50 | false => match Nat.beq f 136 with | true => some TryF136 | false => match Nat.beq f 137 with | true => some TryF137 | false => match Nat.beq f 138 with | true => some TryF138 | false => none
def Tryp48 : Plans := fun id => none
def TryF48 : Fun := funX Tryz.prog TryG (fun _ => true) Trye48 Tryp48 lf Tryz.f48
theorem Tryc48 : CallOk Tryz.prog TryG 48 TryF48 := funX_ok Trymix (callsOk_cons Tryc50 (callsOk_cons Tryc136 (callsOk_cons Tryc137 (callsOk_cons Tryc138 callsOk_0)))) Tryz.func48 (by kernel_rfl)
def Trye56 : FuncId → Option Fun := fun f => match Nat.beq f 136 with | true => some TryF136 | false => match Nat.beq f 137 with | true => some TryF137 | false => match Nat.beq f 138 with | true => some TryF138 | false => match Nat.beq f 140 with | true => some TryF140 | false => none
def Tryp56 : Plans := fun id => match Nat.beq id 7 with | true => some ([0, 1, 3, 7, 0, 0, 48, 0, 255, 511, 1023], [(4, .pure), (5, .pure), (6, .heavy), (0, .pure), (1, .pure), (2, .pure), (3, .read 1), (7, .pure), (8, .pure), (9, .pure), (10, .heavy)]) | false => none
def TryF56 : Fun := funX Tryz.prog TryG (fun _ => true) Trye56 Tryp56 lf Tryz.f56
theorem Tryc56 : CallOk Tryz.prog TryG 56 TryF56 := funX_ok Trymix (callsOk_cons Tryc136 (callsOk_cons Tryc137 (callsOk_cons Tryc138 (callsOk_cons Tryc140 callsOk_0)))) Tryz.func56 (by kernel_rfl)
def Trye349 : FuncId → Option Fun := fun f => none
def Tryp349 : Plans := fun id => match Nat.beq id 4 with | true => some ([0, 0, 2, 7, 0, 16, 63, 127], [(0, .pure), (1, .pure), (2, .pure), (3, .heavy), (4, .pure), (5, .pure), (6, .heavy), (7, .pure)]) | false => none
def TryF349 : Fun := funX Tryz.prog TryG (fun _ => true) Trye349 Tryp349 lf Tryz.f349
theorem Tryc349 : CallOk Tryz.prog TryG 349 TryF349 := funX_ok Trymix callsOk_0 Tryz.func349 (by kernel_rfl)
def TryF350 : Fun := idxF
theorem Tryc350 : CallOk Tryz.prog TryG 350 TryF350 := idxF_ok Tryz.func350 (by kernel_rfl) (by kernel_rfl) (by kernel_rfl) (by kernel_rfl)
def Trye251 : FuncId → Option Fun := fun f => match Nat.beq f 350 with | true => some TryF350 | false => none
def Tryp251 : Plans := fun id => none
def TryF251 : Fun := funX Tryz.prog TryG (fun _ => true) Trye251 Tryp251 lf Tryz.f251
theorem Tryc251 : CallOk Tryz.prog TryG 251 TryF251 := funX_ok Trymix (callsOk_cons Tryc350 callsOk_0) Tryz.func251 (by kernel_rfl)
def Trye146 : FuncId → Option Fun := fun f => match Nat.beq f 251 with | true => some TryF251 | false => none
def Tryp146 : Plans := fun id => none
def TryF146 : Fun := funX Tryz.prog TryG (fun _ => true) Trye146 Tryp146 lf Tryz.f146
theorem Tryc146 : CallOk Tryz.prog TryG 146 TryF146 := funX_ok Trymix (callsOk_cons Tryc251 callsOk_0) Tryz.func146 (by kernel_rfl)
def Trye58 : FuncId → Option Fun := fun f => match Nat.beq f 146 with | true => some TryF146 | false => none
def Tryp58 : Plans := fun id => none
def TryF58 : Fun := funX Tryz.prog TryG (fun _ => true) Trye58 Tryp58 lf Tryz.f58
theorem Tryc58 : CallOk Tryz.prog TryG 58 TryF58 := funX_ok Trymix (callsOk_cons Tryc146 callsOk_0) Tryz.func58 (by kernel_rfl)
def Trye18 : FuncId → Option Fun := fun f => match Nat.beq f 58 with | true => some TryF58 | false => match Nat.beq f 59 with | true => some TryF59 | false => match Nat.beq f 60 with | true => some TryF60 | false => none
def Tryp18 : Plans := fun id => none
def TryF18 : Fun := funX Tryz.prog TryG (fun _ => true) Trye18 Tryp18 lf Tryz.f18
theorem Tryc18 : CallOk Tryz.prog TryG 18 TryF18 := funX_ok Trymix (callsOk_cons Tryc58 (callsOk_cons Tryc59 (callsOk_cons Tryc60 callsOk_0))) Tryz.func18 (by kernel_rfl)
def Trye7 : FuncId → Option Fun := fun f => match Nat.beq f 18 with | true => some TryF18 | false => match Nat.beq f 19 with | true => some TryF19 | false => match Nat.beq f 20 with | true => some TryF20 | false => none
def Tryp7 : Plans := fun id => none
def TryF7 : Fun := funX Tryz.prog TryG (fun _ => true) Trye7 Tryp7 lf Tryz.f7
theorem Tryc7 : CallOk Tryz.prog TryG 7 TryF7 := funX_ok Trymix (callsOk_cons Tryc18 (callsOk_cons Tryc19 (callsOk_cons Tryc20 callsOk_0))) Tryz.func7 (by kernel_rfl)
def Trye12 : FuncId → Option Fun := fun f => match Nat.beq f 7 with | true => some TryF7 | false => none
def Tryp12 : Plans := fun id => none
def TryF12 : Fun := funX Tryz.prog TryG (fun _ => true) Trye12 Tryp12 lf Tryz.f12
theorem Tryc12 : CallOk Tryz.prog TryG 12 TryF12 := funX_ok Trymix (callsOk_cons Tryc7 callsOk_0) Tryz.func12 (by kernel_rfl)
def Trye133 : FuncId → Option Fun := fun f => match Nat.beq f 58 with | true => some TryF58 | false => match Nat.beq f 127 with | true => some TryF127 | false => none
def Tryp133 : Plans := fun id => none
def TryF133 : Fun := funX Tryz.prog TryG (fun _ => true) Trye133 Tryp133 lf Tryz.f133
theorem Tryc133 : CallOk Tryz.prog TryG 133 TryF133 := funX_ok Trymix (callsOk_cons Tryc58 (callsOk_cons Tryc127 callsOk_0)) Tryz.func133 (by kernel_rfl)
def Trye132 : FuncId → Option Fun := fun f => match Nat.beq f 133 with | true => some TryF133 | false => none
def Tryp132 : Plans := fun id => none
def TryF132 : Fun := funX Tryz.prog TryG (fun _ => true) Trye132 Tryp132 lf Tryz.f132
theorem Tryc132 : CallOk Tryz.prog TryG 132 TryF132 := funX_ok Trymix (callsOk_cons Tryc133 callsOk_0) Tryz.func132 (by kernel_rfl)
def Trye244 : FuncId → Option Fun := fun f => match Nat.beq f 132 with | true => some TryF132 | false => none
def Tryp244 : Plans := fun id => none
def TryF244 : Fun := funX Tryz.prog TryG (fun _ => true) Trye244 Tryp244 lf Tryz.f244
theorem Tryc244 : CallOk Tryz.prog TryG 244 TryF244 := funX_ok Trymix (callsOk_cons Tryc132 callsOk_0) Tryz.func244 (by kernel_rfl)
def Trye131 : FuncId → Option Fun := fun f => match Nat.beq f 244 with | true => some TryF244 | false => none
def Tryp131 : Plans := fun id => none
def TryF131 : Fun := funX Tryz.prog TryG (fun _ => true) Trye131 Tryp131 lf Tryz.f131
theorem Tryc131 : CallOk Tryz.prog TryG 131 TryF131 := funX_ok Trymix (callsOk_cons Tryc244 callsOk_0) Tryz.func131 (by kernel_rfl)
def Trye351 : FuncId → Option Fun := fun f => match Nat.beq f 251 with | true => some TryF251 | false => none
def Tryp351 : Plans := fun id => none
def TryF351 : Fun := funX Tryz.prog TryG (fun _ => true) Trye351 Tryp351 lf Tryz.f351
theorem Tryc351 : CallOk Tryz.prog TryG 351 TryF351 := funX_ok Trymix (callsOk_cons Tryc251 callsOk_0) Tryz.func351 (by kernel_rfl)
def Trye256 : FuncId → Option Fun := fun f => match Nat.beq f 351 with | true => some TryF351 | false => none
def Tryp256 : Plans := fun id => match Nat.beq id 3 with | true => some ([0, 0, 3, 0, 0, 0, 32, 112, 248, 7, 1023, 2047], [(0, .pure), (1, .pure), (2, .pure), (3, .pure), (4, .pure), (5, .pure), (6, .pure), (7, .pure), (8, .pure), (9, .pure), (10, .pure), (11, .pure)]) | false => none
def TryF256 : Fun := funX Tryz.prog TryG (fun _ => true) Trye256 Tryp256 lf Tryz.f256
theorem Tryc256 : CallOk Tryz.prog TryG 256 TryF256 := funX_ok Trymix (callsOk_cons Tryc351 callsOk_0) Tryz.func256 (by kernel_rfl)
def Trye160 : FuncId → Option Fun := fun f => match Nat.beq f 256 with | true => some TryF256 | false => none
def Tryp160 : Plans := fun id => none
def TryF160 : Fun := funX Tryz.prog TryG (fun _ => true) Trye160 Tryp160 lf Tryz.f160
theorem Tryc160 : CallOk Tryz.prog TryG 160 TryF160 := funX_ok Trymix (callsOk_cons Tryc256 callsOk_0) Tryz.func160 (by kernel_rfl)
def Trye250 : FuncId → Option Fun := fun f => match Nat.beq f 160 with | true => some TryF160 | false => match Nat.beq f 349 with | true => some TryF349 | false => none
def Tryp250 : Plans := fun id => none
def TryF250 : Fun := funX Tryz.prog TryG (fun _ => true) Trye250 Tryp250 lf Tryz.f250
theorem Tryc250 : CallOk Tryz.prog TryG 250 TryF250 := funX_ok Trymix (callsOk_cons Tryc160 (callsOk_cons Tryc349 callsOk_0)) Tryz.func250 (by kernel_rfl)
def Trye401 : FuncId → Option Fun := fun f => match Nat.beq f 146 with | true => some TryF146 | false => match Nat.beq f 326 with | true => some TryF326 | false => match Nat.beq f 402 with | true => some TryF402 | false => match Nat.beq f 478 with | true => some TryF478 | false => none
def Tryp401 : Plans := fun id => match Nat.beq id 2 with | true => some ([0, 1, 3, 7, 0, 16, 48, 112, 255, 511, 1023, 0, 4095], [(0, .pure), (1, .pure), (2, .pure), (3, .read 0), (4, .pure), (5, .pure), (6, .pure), (7, .read 0), (8, .pure), (9, .read 0), (10, .pure), (11, .alloc), (12, .heavy)]) | false => match Nat.beq id 17 with | true => some ([0, 0, 2, 6, 14, 30, 31, 127], [(1, .pure), (2, .pure), (3, .pure), (4, .heavy), (0, .read 1), (6, .heavy), (5, .pure), (7, .pure)]) | false => none
def TryF401 : Fun := funX Tryz.prog TryG (fun _ => true) Trye401 Tryp401 lf Tryz.f401
theorem Tryc401 : CallOk Tryz.prog TryG 401 TryF401 := funX_ok Trymix (callsOk_cons Tryc146 (callsOk_cons Tryc326 (callsOk_cons Tryc402 (callsOk_cons Tryc478 callsOk_0)))) Tryz.func401 (by kernel_rfl)
def Trye325 : FuncId → Option Fun := fun f => match Nat.beq f 401 with | true => some TryF401 | false => match Nat.beq f 402 with | true => some TryF402 | false => none
def Tryp325 : Plans := fun id => none
def TryF325 : Fun := funX Tryz.prog TryG (fun _ => true) Trye325 Tryp325 lf Tryz.f325
theorem Tryc325 : CallOk Tryz.prog TryG 325 TryF325 := funX_ok Trymix (callsOk_cons Tryc401 (callsOk_cons Tryc402 callsOk_0)) Tryz.func325 (by kernel_rfl)
def Trye235 : FuncId → Option Fun := fun f => match Nat.beq f 325 with | true => some TryF325 | false => match Nat.beq f 326 with | true => some TryF326 | false => none
def Tryp235 : Plans := fun id => match Nat.beq id 10 with | true => some ([0, 0, 2, 6, 14, 30, 62, 126, 254, 510, 1022, 2046, 254, 4350, 16382, 32766, 255, 131071], [(1, .pure), (2, .pure), (3, .pure), (4, .heavy), (0, .pure), (5, .pure), (6, .pure), (7, .pure), (8, .pure), (9, .pure), (10, .pure), (11, .read 0), (12, .pure), (13, .pure), (14, .pure), (15, .pure), (16, .pure), (17, .pure)]) | false => none
def TryF235 : Fun := funX Tryz.prog TryG (fun _ => true) Trye235 Tryp235 lf Tryz.f235
theorem Tryc235 : CallOk Tryz.prog TryG 235 TryF235 := funX_ok Trymix (callsOk_cons Tryc325 (callsOk_cons Tryc326 callsOk_0)) Tryz.func235 (by kernel_rfl)
def Trye257 : FuncId → Option Fun := fun f => none
def Tryp257 : Plans := fun id => none
def TryF257 : Fun := funX Tryz.prog TryG (fun _ => true) Trye257 Tryp257 lf Tryz.f257
theorem Tryc257 : CallOk Tryz.prog TryG 257 TryF257 := funX_ok Trymix callsOk_0 Tryz.func257 (by kernel_rfl)
def Trye357 : FuncId → Option Fun := fun f => none
def Tryp357 : Plans := fun id => none
def TryF357 : Fun := funX Tryz.prog TryG (fun _ => true) Trye357 Tryp357 lf Tryz.f357
theorem Tryc357 : CallOk Tryz.prog TryG 357 TryF357 := funX_ok Trymix callsOk_0 Tryz.func357 (by kernel_rfl)
def Trye261 : FuncId → Option Fun := fun f => match Nat.beq f 257 with | true => some TryF257 | false => match Nat.beq f 357 with | true => some TryF357 | false => none
def Tryp261 : Plans := fun id => match Nat.beq id 10 with | true => some ([0, 1, 0, 0, 0, 0, 48, 124, 255], [(0, .pure), (1, .heavy), (2, .pure), (3, .pure), (4, .pure), (5, .pure), (6, .pure), (7, .pure), (8, .pure)]) | false => none
def TryF261 : Fun := funX Tryz.prog TryG (fun _ => true) Trye261 Tryp261 lf Tryz.f261
theorem Tryc261 : CallOk Tryz.prog TryG 261 TryF261 := funX_ok Trymix (callsOk_cons Tryc257 (callsOk_cons Tryc357 callsOk_0)) Tryz.func261 (by kernel_rfl)
def Trye254 : FuncId → Option Fun := fun f => match Nat.beq f 261 with | true => some TryF261 | false => none
def Tryp254 : Plans := fun id => none
def TryF254 : Fun := funX Tryz.prog TryG (fun _ => true) Trye254 Tryp254 lf Tryz.f254
theorem Tryc254 : CallOk Tryz.prog TryG 254 TryF254 := funX_ok Trymix (callsOk_cons Tryc261 callsOk_0) Tryz.func254 (by kernel_rfl)
def Trye164 : FuncId → Option Fun := fun f => match Nat.beq f 130 with | true => some TryF130 | false => match Nat.beq f 170 with | true => some TryF170 | false => match Nat.beq f 254 with | true => some TryF254 | false => match Nat.beq f 259 with | true => some TryF259 | false => match Nat.beq f 261 with | true => some TryF261 | false => none
def Tryp164 : Plans := fun id => match Nat.beq id 11 with | true => some ([0, 0, 2, 7, 15], [(1, .pure), (2, .heavy), (0, .read 1), (3, .heavy), (4, .heavy)]) | false => none
def TryF164 : Fun := funX Tryz.prog TryG (fun _ => true) Trye164 Tryp164 lf Tryz.f164
theorem Tryc164 : CallOk Tryz.prog TryG 164 TryF164 := funX_ok Trymix (callsOk_cons Tryc130 (callsOk_cons Tryc170 (callsOk_cons Tryc254 (callsOk_cons Tryc259 (callsOk_cons Tryc261 callsOk_0))))) Tryz.func164 (by kernel_rfl)
def Trye73 : FuncId → Option Fun := fun f => match Nat.beq f 160 with | true => some TryF160 | false => match Nat.beq f 164 with | true => some TryF164 | false => none
def Tryp73 : Plans := fun id => none
def TryF73 : Fun := funX Tryz.prog TryG (fun _ => true) Trye73 Tryp73 lf Tryz.f73
theorem Tryc73 : CallOk Tryz.prog TryG 73 TryF73 := funX_ok Trymix (callsOk_cons Tryc160 (callsOk_cons Tryc164 callsOk_0)) Tryz.func73 (by kernel_rfl)
def TryF359 : Fun := noZero 5
theorem Tryc359 : CallOk Tryz.prog TryG 359 TryF359 := noZero_ok (ps := Tryz.f359.params) Tryz.func359 (by kernel_rfl) (by kernel_rfl) (by kernel_rfl) Tryz.underlying78 (by kernel_rfl)
def Trye265 : FuncId → Option Fun := fun f => match Nat.beq f 359 with | true => some TryF359 | false => none
def Tryp265 : Plans := fun id => match Nat.beq id 0 with | true => some ([0, 1, 3, 7, 15, 31, 0, 127, 255, 0, 512, 1536, 3584, 7680, 16383, 32767], [(0, .pure), (1, .pure), (2, .pure), (3, .read 0), (4, .heavy), (5, .pure), (6, .pure), (7, .pure), (8, .heavy), (9, .pure), (10, .pure), (11, .pure), (12, .read 2), (13, .pure), (14, .pure), (15, .pure)]) | false => none
def TryF265 : Fun := funX Tryz.prog TryG (fun _ => true) Trye265 Tryp265 lf Tryz.f265
theorem Tryc265 : CallOk Tryz.prog TryG 265 TryF265 := funX_ok Trymix (callsOk_cons Tryc359 callsOk_0) Tryz.func265 (by kernel_rfl)
def Trye169 : FuncId → Option Fun := fun f => match Nat.beq f 237 with | true => some TryF237 | false => match Nat.beq f 265 with | true => some TryF265 | false => none
def Tryp169 : Plans := fun id => match Nat.beq id 3 with | true => some ([0, 1, 3, 7, 15, 0, 32, 96, 224, 480, 1023, 0, 4095], [(0, .pure), (1, .pure), (2, .pure), (3, .read 0), (4, .heavy), (5, .pure), (6, .pure), (7, .pure), (8, .read 1), (9, .pure), (10, .pure), (11, .pure), (12, .pure)]) | false => none
def TryF169 : Fun := funX Tryz.prog TryG (fun _ => true) Trye169 Tryp169 lf Tryz.f169
theorem Tryc169 : CallOk Tryz.prog TryG 169 TryF169 := funX_ok Trymix (callsOk_cons Tryc237 (callsOk_cons Tryc265 callsOk_0)) Tryz.func169 (by kernel_rfl)
def Trye83 : FuncId → Option Fun := fun f => match Nat.beq f 128 with | true => some TryF128 | false => match Nat.beq f 130 with | true => some TryF130 | false => match Nat.beq f 169 with | true => some TryF169 | false => none
def Tryp83 : Plans := fun id => none
def TryF83 : Fun := funX Tryz.prog TryG (fun _ => true) Trye83 Tryp83 lf Tryz.f83
theorem Tryc83 : CallOk Tryz.prog TryG 83 TryF83 := funX_ok Trymix (callsOk_cons Tryc128 (callsOk_cons Tryc130 (callsOk_cons Tryc169 callsOk_0))) Tryz.func83 (by kernel_rfl)
def Trye62 : FuncId → Option Fun := fun f => match Nat.beq f 83 with | true => some TryF83 | false => match Nat.beq f 128 with | true => some TryF128 | false => none
def Tryp62 : Plans := fun id => match Nat.beq id 0 with | true => some ([0, 1, 3, 0, 8, 31], [(3, .pure), (4, .heavy), (0, .pure), (1, .pure), (2, .pure), (5, .heavy)]) | false => none
def TryF62 : Fun := funX Tryz.prog TryG (fun _ => true) Trye62 Tryp62 lf Tryz.f62
theorem Tryc62 : CallOk Tryz.prog TryG 62 TryF62 := funX_ok Trymix (callsOk_cons Tryc83 (callsOk_cons Tryc128 callsOk_0)) Tryz.func62 (by kernel_rfl)
def Trye76 : FuncId → Option Fun := fun f => match Nat.beq f 83 with | true => some TryF83 | false => match Nat.beq f 166 with | true => some TryF166 | false => match Nat.beq f 167 with | true => some TryF167 | false => none
def Tryp76 : Plans := fun id => none
def TryF76 : Fun := funX Tryz.prog TryG (fun _ => true) Trye76 Tryp76 lf Tryz.f76
theorem Tryc76 : CallOk Tryz.prog TryG 76 TryF76 := funX_ok Trymix (callsOk_cons Tryc83 (callsOk_cons Tryc166 (callsOk_cons Tryc167 callsOk_0))) Tryz.func76 (by kernel_rfl)
def Trye150 : FuncId → Option Fun := fun f => match Nat.beq f 76 with | true => some TryF76 | false => match Nat.beq f 127 with | true => some TryF127 | false => none
def Tryp150 : Plans := fun id => none
def TryF150 : Fun := funX Tryz.prog TryG (fun _ => true) Trye150 Tryp150 lf Tryz.f150
theorem Tryc150 : CallOk Tryz.prog TryG 150 TryF150 := funX_ok Trymix (callsOk_cons Tryc76 (callsOk_cons Tryc127 callsOk_0)) Tryz.func150 (by kernel_rfl)
def Trye69 : FuncId → Option Fun := fun f => match Nat.beq f 73 with | true => some TryF73 | false => match Nat.beq f 74 with | true => some TryF74 | false => match Nat.beq f 150 with | true => some TryF150 | false => none
def Tryp69 : Plans := fun id => none
def TryF69 : Fun := funX Tryz.prog TryG (fun _ => true) Trye69 Tryp69 lf Tryz.f69
theorem Tryc69 : CallOk Tryz.prog TryG 69 TryF69 := funX_ok Trymix (callsOk_cons Tryc73 (callsOk_cons Tryc74 (callsOk_cons Tryc150 callsOk_0))) Tryz.func69 (by kernel_rfl)
def Trye370 : FuncId → Option Fun := fun f => none
def Tryp370 : Plans := fun id => none
def TryF370 : Fun := funX Tryz.prog TryG (fun _ => true) Trye370 Tryp370 lf Tryz.f370
theorem Tryc370 : CallOk Tryz.prog TryG 370 TryF370 := funX_ok Trymix callsOk_0 Tryz.func370 (by kernel_rfl)
def Trye216 : FuncId → Option Fun := fun f => none
def Tryp216 : Plans := fun id => none
def TryF216 : Fun := funX Tryz.prog TryG (fun _ => true) Trye216 Tryp216 lf Tryz.f216
theorem Tryc216 : CallOk Tryz.prog TryG 216 TryF216 := funX_ok Trymix callsOk_0 Tryz.func216 (by kernel_rfl)
def Trye102 : FuncId → Option Fun := fun f => match Nat.beq f 216 with | true => some TryF216 | false => none
def Tryp102 : Plans := fun id => none
def TryF102 : Fun := funX Tryz.prog TryG (fun _ => true) Trye102 Tryp102 lf Tryz.f102
theorem Tryc102 : CallOk Tryz.prog TryG 102 TryF102 := funX_ok Trymix (callsOk_cons Tryc216 callsOk_0) Tryz.func102 (by kernel_rfl)
def Trye399 : FuncId → Option Fun := fun f => none
def Tryp399 : Plans := fun id => none
def TryF399 : Fun := funX Tryz.prog TryG (fun _ => true) Trye399 Tryp399 lf Tryz.f399
theorem Tryc399 : CallOk Tryz.prog TryG 399 TryF399 := funX_ok Trymix callsOk_0 Tryz.func399 (by kernel_rfl)
def Trye321 : FuncId → Option Fun := fun f => match Nat.beq f 399 with | true => some TryF399 | false => none
def Tryp321 : Plans := fun id => none
def TryF321 : Fun := funX Tryz.prog TryG (fun _ => true) Trye321 Tryp321 lf Tryz.f321
theorem Tryc321 : CallOk Tryz.prog TryG 321 TryF321 := funX_ok Trymix (callsOk_cons Tryc399 callsOk_0) Tryz.func321 (by kernel_rfl)
def Trye225 : FuncId → Option Fun := fun f => match Nat.beq f 321 with | true => some TryF321 | false => none
def Tryp225 : Plans := fun id => none
def TryF225 : Fun := funX Tryz.prog TryG (fun _ => true) Trye225 Tryp225 lf Tryz.f225
theorem Tryc225 : CallOk Tryz.prog TryG 225 TryF225 := funX_ok Trymix (callsOk_cons Tryc321 callsOk_0) Tryz.func225 (by kernel_rfl)
def Trye234 : FuncId → Option Fun := fun f => match Nat.beq f 149 with | true => some TryF149 | false => match Nat.beq f 225 with | true => some TryF225 | false => none
def Tryp234 : Plans := fun id => none
def TryF234 : Fun := funX Tryz.prog TryG (fun _ => true) Trye234 Tryp234 lf Tryz.f234
theorem Tryc234 : CallOk Tryz.prog TryG 234 TryF234 := funX_ok Trymix (callsOk_cons Tryc149 (callsOk_cons Tryc225 callsOk_0)) Tryz.func234 (by kernel_rfl)
def Trye324 : FuncId → Option Fun := fun f => match Nat.beq f 399 with | true => some TryF399 | false => none
def Tryp324 : Plans := fun id => none
def TryF324 : Fun := funX Tryz.prog TryG (fun _ => true) Trye324 Tryp324 lf Tryz.f324
theorem Tryc324 : CallOk Tryz.prog TryG 324 TryF324 := funX_ok Trymix (callsOk_cons Tryc399 callsOk_0) Tryz.func324 (by kernel_rfl)
def Trye233 : FuncId → Option Fun := fun f => match Nat.beq f 324 with | true => some TryF324 | false => none
def Tryp233 : Plans := fun id => none
def TryF233 : Fun := funX Tryz.prog TryG (fun _ => true) Trye233 Tryp233 lf Tryz.f233
theorem Tryc233 : CallOk Tryz.prog TryG 233 TryF233 := funX_ok Trymix (callsOk_cons Tryc324 callsOk_0) Tryz.func233 (by kernel_rfl)
def Trye122 : FuncId → Option Fun := fun f => match Nat.beq f 123 with | true => some TryF123 | false => match Nat.beq f 233 with | true => some TryF233 | false => match Nat.beq f 234 with | true => some TryF234 | false => match Nat.beq f 235 with | true => some TryF235 | false => none
def Tryp122 : Plans := fun id => match Nat.beq id 5 with | true => some ([0, 1, 3, 7, 0, 16, 63, 0, 128, 384, 896, 2047, 4095, 8191, 8191, 16383, 65535], [(0, .pure), (1, .pure), (2, .pure), (3, .read 0), (4, .pure), (5, .alloc), (6, .heavy), (7, .pure), (8, .pure), (9, .pure), (10, .read 1), (11, .heavy), (12, .pure), (13, .pure), (14, .pure), (15, .pure), (16, .pure)]) | false => match Nat.beq id 10 with | true => some ([0, 0, 2, 6, 14, 0, 32, 96, 224, 510, 1023], [(0, .pure), (1, .pure), (2, .pure), (3, .pure), (4, .read 0), (5, .pure), (6, .pure), (7, .pure), (8, .read 0), (9, .pure), (10, .pure)]) | false => none
def TryF122 : Fun := funX Tryz.prog TryG (fun _ => true) Trye122 Tryp122 lf Tryz.f122
theorem Tryc122 : CallOk Tryz.prog TryG 122 TryF122 := funX_ok Trymix (callsOk_cons Tryc123 (callsOk_cons Tryc233 (callsOk_cons Tryc234 (callsOk_cons Tryc235 callsOk_0)))) Tryz.func122 (by kernel_rfl)
def Trye45 : FuncId → Option Fun := fun f => match Nat.beq f 122 with | true => some TryF122 | false => none
def Tryp45 : Plans := fun id => match Nat.beq id 10 with | true => some ([0, 1, 3, 7, 0, 16, 48, 112, 240, 511, 1023], [(0, .pure), (1, .pure), (2, .pure), (3, .read 0), (4, .pure), (5, .pure), (6, .pure), (7, .read 0), (8, .pure), (9, .pure), (10, .pure)]) | false => none
def TryF45 : Fun := funX Tryz.prog TryG (fun _ => true) Trye45 Tryp45 lf Tryz.f45
theorem Tryc45 : CallOk Tryz.prog TryG 45 TryF45 := funX_ok Trymix (callsOk_cons Tryc122 callsOk_0) Tryz.func45 (by kernel_rfl)
def Trye348 : FuncId → Option Fun := fun f => match Nat.beq f 146 with | true => some TryF146 | false => match Nat.beq f 233 with | true => some TryF233 | false => none
def Tryp348 : Plans := fun id => match Nat.beq id 1 with | true => some ([0, 0, 0, 7, 0, 15, 63], [(0, .read 0), (1, .read 0), (2, .read 0), (3, .pure), (4, .read 0), (5, .pure), (6, .pure)]) | false => match Nat.beq id 4 with | true => some ([0, 0, 3, 7, 0, 0, 48, 112, 15, 511], [(0, .pure), (1, .pure), (2, .pure), (3, .heavy), (4, .read 1), (5, .pure), (6, .pure), (7, .pure), (8, .pure), (9, .pure)]) | false => none
def TryI348 : IterF := iterX Tryz.prog TryG (fun _ => true) Trye348 Tryp348 lf Tryz.f348
theorem Tryj348 : IterOk Tryz.prog TryG 348 TryI348 := iterX_ok Trymix (callsOk_cons Tryc146 (callsOk_cons Tryc233 callsOk_0)) Tryz.func348 (by kernel_rfl)
def Trye143 : FuncId → Option Fun := fun f => match Nat.beq f 249 with | true => some TryF249 | false => match Nat.beq f 250 with | true => some TryF250 | false => none
def Tryp143 : Plans := fun id => match Nat.beq id 22 with | true => some ([0, 0, 1, 7], [(0, .pure), (1, .read 0), (2, .pure), (3, .heavy)]) | false => none
def Tryi143 : Iters := fun f => match Nat.beq f 348 with | true => some TryI348 | false => none
def TryF143 : Fun := funM Tryz.prog TryG (fun _ => true) Trye143 Tryi143 Tryp143 lf Tryz.f143
theorem Tryc143 : CallOk Tryz.prog TryG 143 TryF143 := funM_ok Trymix (callsOk_cons Tryc249 (callsOk_cons Tryc250 callsOk_0)) (itersOk_cons Tryj348 itersOk_0) Tryz.func143 (by kernel_rfl)
def Trye142 : FuncId → Option Fun := fun f => match Nat.beq f 143 with | true => some TryF143 | false => match Nat.beq f 144 with | true => some TryF144 | false => none
def Tryp142 : Plans := fun id => none
def TryF142 : Fun := funX Tryz.prog TryG (fun _ => true) Trye142 Tryp142 lf Tryz.f142
theorem Tryc142 : CallOk Tryz.prog TryG 142 TryF142 := funX_ok Trymix (callsOk_cons Tryc143 (callsOk_cons Tryc144 callsOk_0)) Tryz.func142 (by kernel_rfl)
def Trye53 : FuncId → Option Fun := fun f => match Nat.beq f 142 with | true => some TryF142 | false => none
def Tryp53 : Plans := fun id => none
def TryF53 : Fun := funX Tryz.prog TryG (fun _ => true) Trye53 Tryp53 lf Tryz.f53
theorem Tryc53 : CallOk Tryz.prog TryG 53 TryF53 := funX_ok Trymix (callsOk_cons Tryc142 callsOk_0) Tryz.func53 (by kernel_rfl)
def Trye309 : FuncId → Option Fun := fun f => match Nat.beq f 143 with | true => some TryF143 | false => none
def Tryp309 : Plans := fun id => none
def TryF309 : Fun := funX Tryz.prog TryG (fun _ => true) Trye309 Tryp309 lf Tryz.f309
theorem Tryc309 : CallOk Tryz.prog TryG 309 TryF309 := funX_ok Trymix (callsOk_cons Tryc143 callsOk_0) Tryz.func309 (by kernel_rfl)
def Trye316 : FuncId → Option Fun := fun f => match Nat.beq f 309 with | true => some TryF309 | false => none
def Tryp316 : Plans := fun id => none
def TryF316 : Fun := funX Tryz.prog TryG (fun _ => true) Trye316 Tryp316 lf Tryz.f316
theorem Tryc316 : CallOk Tryz.prog TryG 316 TryF316 := funX_ok Trymix (callsOk_cons Tryc309 callsOk_0) Tryz.func316 (by kernel_rfl)
def Trye393 : FuncId → Option Fun := fun f => match Nat.beq f 143 with | true => some TryF143 | false => match Nat.beq f 144 with | true => some TryF144 | false => none
def Tryp393 : Plans := fun id => none
def TryF393 : Fun := funX Tryz.prog TryG (fun _ => true) Trye393 Tryp393 lf Tryz.f393
theorem Tryc393 : CallOk Tryz.prog TryG 393 TryF393 := funX_ok Trymix (callsOk_cons Tryc143 (callsOk_cons Tryc144 callsOk_0)) Tryz.func393 (by kernel_rfl)
def Trye408 : FuncId → Option Fun := fun f => none
def Tryp408 : Plans := fun id => none
def TryF408 : Fun := funX Tryz.prog TryG (fun _ => true) Trye408 Tryp408 lf Tryz.f408
theorem Tryc408 : CallOk Tryz.prog TryG 408 TryF408 := funX_ok Trymix callsOk_0 Tryz.func408 (by kernel_rfl)
def Trye334 : FuncId → Option Fun := fun f => match Nat.beq f 408 with | true => some TryF408 | false => none
def Tryp334 : Plans := fun id => none
def TryF334 : Fun := funX Tryz.prog TryG (fun _ => true) Trye334 Tryp334 lf Tryz.f334
theorem Tryc334 : CallOk Tryz.prog TryG 334 TryF334 := funX_ok Trymix (callsOk_cons Tryc408 callsOk_0) Tryz.func334 (by kernel_rfl)
def Trye328 : FuncId → Option Fun := fun f => match Nat.beq f 334 with | true => some TryF334 | false => none
def Tryp328 : Plans := fun id => match Nat.beq id 4 with | true => some ([0, 0, 3, 7, 15, 15, 63, 127, 15, 15, 527, 1807, 3855, 8191, 16383], [(0, .pure), (1, .pure), (2, .pure), (3, .pure), (4, .pure), (5, .pure), (6, .pure), (7, .read 0), (8, .pure), (9, .pure), (10, .pure), (11, .pure), (12, .read 0), (13, .heavy), (14, .pure)]) | false => match Nat.beq id 6 with | true => some ([0, 0, 0, 0, 8, 0, 0, 64, 224, 480, 0, 0, 3072, 7168, 16355, 32739, 65535, 131071], [(0, .pure), (1, .pure), (5, .pure), (6, .pure), (7, .pure), (8, .pure), (9, .read 0), (10, .pure), (11, .pure), (12, .pure), (13, .read 0), (14, .pure), (15, .heavy), (2, .pure), (3, .pure), (4, .pure), (16, .pure), (17, .heavy)]) | false => none
def TryF328 : Fun := funX Tryz.prog TryG (fun _ => true) Trye328 Tryp328 lf Tryz.f328
theorem Tryc328 : CallOk Tryz.prog TryG 328 TryF328 := funX_ok Trymix (callsOk_cons Tryc334 callsOk_0) Tryz.func328 (by kernel_rfl)
def Trye245 : FuncId → Option Fun := fun f => match Nat.beq f 328 with | true => some TryF328 | false => none
def Tryp245 : Plans := fun id => match Nat.beq id 17 with | true => some ([0, 1, 3, 7, 7, 23, 63, 127, 7, 7, 775, 1799, 4095, 8191, 16383], [(0, .pure), (1, .pure), (2, .pure), (3, .pure), (4, .pure), (5, .pure), (6, .pure), (7, .read 0), (8, .pure), (9, .pure), (10, .pure), (11, .read 0), (12, .heavy), (13, .pure), (14, .pure)]) | false => none
def TryF245 : Fun := funX Tryz.prog TryG (fun _ => true) Trye245 Tryp245 lf Tryz.f245
theorem Tryc245 : CallOk Tryz.prog TryG 245 TryF245 := funX_ok Trymix (callsOk_cons Tryc328 callsOk_0) Tryz.func245 (by kernel_rfl)
def Trye134 : FuncId → Option Fun := fun f => match Nat.beq f 245 with | true => some TryF245 | false => match Nat.beq f 246 with | true => some TryF246 | false => none
def Tryp134 : Plans := fun id => none
def TryF134 : Fun := funX Tryz.prog TryG (fun _ => true) Trye134 Tryp134 lf Tryz.f134
theorem Tryc134 : CallOk Tryz.prog TryG 134 TryF134 := funX_ok Trymix (callsOk_cons Tryc245 (callsOk_cons Tryc246 callsOk_0)) Tryz.func134 (by kernel_rfl)
def Trye47 : FuncId → Option Fun := fun f => match Nat.beq f 107 with | true => some TryF107 | false => match Nat.beq f 131 with | true => some TryF131 | false => match Nat.beq f 134 with | true => some TryF134 | false => match Nat.beq f 135 with | true => some TryF135 | false => none
def Tryp47 : Plans := fun id => none
def TryF47 : Fun := funX Tryz.prog TryG (fun _ => true) Trye47 Tryp47 lf Tryz.f47
theorem Tryc47 : CallOk Tryz.prog TryG 47 TryF47 := funX_ok Trymix (callsOk_cons Tryc107 (callsOk_cons Tryc131 (callsOk_cons Tryc134 (callsOk_cons Tryc135 callsOk_0)))) Tryz.func47 (by kernel_rfl)
def Trye14 : FuncId → Option Fun := fun f => match Nat.beq f 47 with | true => some TryF47 | false => match Nat.beq f 48 with | true => some TryF48 | false => match Nat.beq f 49 with | true => some TryF49 | false => match Nat.beq f 50 with | true => some TryF50 | false => match Nat.beq f 52 with | true => some TryF52 | false => match Nat.beq f 53 with | true => some TryF53 | false => match Nat.beq f 54 with | true => some TryF54 | false => match Nat.beq f 55 with | true => some TryF55 | false => match Nat.beq f 56 with | true => some TryF56 | false => none
def Tryp14 : Plans := fun id => match Nat.beq id 11 with | true => some ([0, 1, 3, 7, 15, 0, 32, 96, 224, 480, 1023, 2047], [(0, .pure), (1, .pure), (2, .pure), (3, .read 0), (4, .pure), (5, .pure), (6, .pure), (7, .pure), (8, .pure), (9, .read 0), (10, .pure), (11, .pure)]) | false => match Nat.beq id 12 with | true => some ([0, 1, 0, 4, 12, 28, 60, 0, 128, 384, 896, 2044, 4095, 8191], [(0, .pure), (1, .pure), (2, .pure), (3, .pure), (4, .pure), (5, .pure), (6, .read 0), (7, .pure), (8, .pure), (9, .pure), (10, .read 0), (11, .pure), (12, .pure), (13, .pure)]) | false => match Nat.beq id 19 with | true => some ([0, 1, 3, 7, 0, 0, 48, 0, 0, 0, 0, 0, 4095, 0, 16383], [(4, .pure), (5, .pure), (6, .heavy), (0, .pure), (1, .pure), (2, .pure), (3, .read 1), (7, .pure), (8, .pure), (9, .pure), (10, .pure), (11, .pure), (12, .pure), (13, .alloc), (14, .heavy)]) | false => match Nat.beq id 26 with | true => some ([0, 1, 0, 0, 12, 28, 63, 127, 255], [(2, .pure), (3, .pure), (4, .heavy), (0, .pure), (1, .read 1), (5, .alloc), (6, .heavy), (7, .pure), (8, .heavy)]) | false => match Nat.beq id 28 with | true => some ([0, 0, 2, 6, 14, 0, 32, 126, 255, 511, 1023], [(1, .pure), (2, .pure), (3, .pure), (4, .read 0), (5, .read 0), (6, .alloc), (7, .heavy), (0, .pure), (8, .pure), (9, .pure), (10, .heavy)]) | false => match Nat.beq id 30 with | true => some ([0, 1, 3, 7, 0, 0, 0, 112, 0, 0, 512, 1792, 0, 0, 8192, 0, 61440, 130816, 262128, 524287], [(4, .pure), (5, .pure), (6, .pure), (7, .heavy), (8, .pure), (9, .pure), (10, .read 1), (11, .pure), (12, .pure), (13, .pure), (14, .read 1), (15, .pure), (16, .pure), (17, .alloc), (18, .heavy), (0, .pure), (1, .pure), (2, .pure), (3, .read 2), (19, .heavy)]) | false => none
def TryF14 : Fun := funX Tryz.prog TryG (fun _ => true) Trye14 Tryp14 lf Tryz.f14
theorem Tryc14 : CallOk Tryz.prog TryG 14 TryF14 := funX_ok Trymix (callsOk_cons Tryc47 (callsOk_cons Tryc48 (callsOk_cons Tryc49 (callsOk_cons Tryc50 (callsOk_cons Tryc52 (callsOk_cons Tryc53 (callsOk_cons Tryc54 (callsOk_cons Tryc55 (callsOk_cons Tryc56 callsOk_0))))))))) Tryz.func14 (by kernel_rfl)
def TryF423 : Fun := cntF
theorem Tryc423 : CallOk Tryz.prog TryG 423 TryF423 := cntF_ok Tryz.func423 (by kernel_rfl) (by kernel_rfl) (by kernel_rfl) (by kernel_rfl)
def Trye353 : FuncId → Option Fun := fun f => match Nat.beq f 423 with | true => some TryF423 | false => none
def Tryp353 : Plans := fun id => none
def TryF353 : Fun := funX Tryz.prog TryG (fun _ => true) Trye353 Tryp353 lf Tryz.f353
theorem Tryc353 : CallOk Tryz.prog TryG 353 TryF353 := funX_ok Trymix (callsOk_cons Tryc423 callsOk_0) Tryz.func353 (by kernel_rfl)
def Trye368 : FuncId → Option Fun := fun f => match Nat.beq f 353 with | true => some TryF353 | false => none
def Tryp368 : Plans := fun id => none
def TryF368 : Fun := funX Tryz.prog TryG (fun _ => true) Trye368 Tryp368 lf Tryz.f368
theorem Tryc368 : CallOk Tryz.prog TryG 368 TryF368 := funX_ok Trymix (callsOk_cons Tryc353 callsOk_0) Tryz.func368 (by kernel_rfl)
def Trye290 : FuncId → Option Fun := fun f => match Nat.beq f 368 with | true => some TryF368 | false => none
def Tryp290 : Plans := fun id => none
def TryF290 : Fun := funX Tryz.prog TryG (fun _ => true) Trye290 Tryp290 lf Tryz.f290
theorem Tryc290 : CallOk Tryz.prog TryG 290 TryF290 := funX_ok Trymix (callsOk_cons Tryc368 callsOk_0) Tryz.func290 (by kernel_rfl)
def Trye428 : FuncId → Option Fun := fun f => none
def Tryp428 : Plans := fun id => none
def TryF428 : Fun := funX Tryz.prog TryG (fun _ => true) Trye428 Tryp428 lf Tryz.f428
theorem Tryc428 : CallOk Tryz.prog TryG 428 TryF428 := funX_ok Trymix callsOk_0 Tryz.func428 (by kernel_rfl)
def Trye363 : FuncId → Option Fun := fun f => match Nat.beq f 428 with | true => some TryF428 | false => none
def Tryp363 : Plans := fun id => none
def TryF363 : Fun := funX Tryz.prog TryG (fun _ => true) Trye363 Tryp363 lf Tryz.f363
theorem Tryc363 : CallOk Tryz.prog TryG 363 TryF363 := funX_ok Trymix (callsOk_cons Tryc428 callsOk_0) Tryz.func363 (by kernel_rfl)
def Trye271 : FuncId → Option Fun := fun f => match Nat.beq f 363 with | true => some TryF363 | false => none
def Tryp271 : Plans := fun id => none
def TryF271 : Fun := funX Tryz.prog TryG (fun _ => true) Trye271 Tryp271 lf Tryz.f271
theorem Tryc271 : CallOk Tryz.prog TryG 271 TryF271 := funX_ok Trymix (callsOk_cons Tryc363 callsOk_0) Tryz.func271 (by kernel_rfl)
def Trye176 : FuncId → Option Fun := fun f => match Nat.beq f 271 with | true => some TryF271 | false => none
def Tryp176 : Plans := fun id => none
def TryF176 : Fun := funX Tryz.prog TryG (fun _ => true) Trye176 Tryp176 lf Tryz.f176
theorem Tryc176 : CallOk Tryz.prog TryG 176 TryF176 := funX_ok Trymix (callsOk_cons Tryc271 callsOk_0) Tryz.func176 (by kernel_rfl)
def Trye81 : FuncId → Option Fun := fun f => match Nat.beq f 176 with | true => some TryF176 | false => none
def Tryp81 : Plans := fun id => none
def TryF81 : Fun := funX Tryz.prog TryG (fun _ => true) Trye81 Tryp81 lf Tryz.f81
theorem Tryc81 : CallOk Tryz.prog TryG 81 TryF81 := funX_ok Trymix (callsOk_cons Tryc176 callsOk_0) Tryz.func81 (by kernel_rfl)
def Trye109 : FuncId → Option Fun := fun f => match Nat.beq f 81 with | true => some TryF81 | false => match Nat.beq f 83 with | true => some TryF83 | false => none
def Tryp109 : Plans := fun id => none
def TryF109 : Fun := funX Tryz.prog TryG (fun _ => true) Trye109 Tryp109 lf Tryz.f109
theorem Tryc109 : CallOk Tryz.prog TryG 109 TryF109 := funX_ok Trymix (callsOk_cons Tryc81 (callsOk_cons Tryc83 callsOk_0)) Tryz.func109 (by kernel_rfl)
def Trye168 : FuncId → Option Fun := fun f => match Nat.beq f 81 with | true => some TryF81 | false => match Nat.beq f 264 with | true => some TryF264 | false => none
def Tryp168 : Plans := fun id => none
def TryF168 : Fun := funX Tryz.prog TryG (fun _ => true) Trye168 Tryp168 lf Tryz.f168
theorem Tryc168 : CallOk Tryz.prog TryG 168 TryF168 := funX_ok Trymix (callsOk_cons Tryc81 (callsOk_cons Tryc264 callsOk_0)) Tryz.func168 (by kernel_rfl)
def Trye315 : FuncId → Option Fun := fun f => match Nat.beq f 168 with | true => some TryF168 | false => match Nat.beq f 316 with | true => some TryF316 | false => none
def Tryp315 : Plans := fun id => none
def TryF315 : Fun := funX Tryz.prog TryG (fun _ => true) Trye315 Tryp315 lf Tryz.f315
theorem Tryc315 : CallOk Tryz.prog TryG 315 TryF315 := funX_ok Trymix (callsOk_cons Tryc168 (callsOk_cons Tryc316 callsOk_0)) Tryz.func315 (by kernel_rfl)
def Trye238 : FuncId → Option Fun := fun f => match Nat.beq f 81 with | true => some TryF81 | false => match Nat.beq f 83 with | true => some TryF83 | false => match Nat.beq f 128 with | true => some TryF128 | false => none
def Tryp238 : Plans := fun id => none
def TryF238 : Fun := funX Tryz.prog TryG (fun _ => true) Trye238 Tryp238 lf Tryz.f238
theorem Tryc238 : CallOk Tryz.prog TryG 238 TryF238 := funX_ok Trymix (callsOk_cons Tryc81 (callsOk_cons Tryc83 (callsOk_cons Tryc128 callsOk_0))) Tryz.func238 (by kernel_rfl)
def Trye313 : FuncId → Option Fun := fun f => match Nat.beq f 81 with | true => some TryF81 | false => match Nat.beq f 83 with | true => some TryF83 | false => match Nat.beq f 160 with | true => some TryF160 | false => match Nat.beq f 168 with | true => some TryF168 | false => match Nat.beq f 353 with | true => some TryF353 | false => none
def Tryp313 : Plans := fun id => match Nat.beq id 16 with | true => some ([0, 0, 2, 6, 0, 16, 62, 126, 255, 511], [(1, .pure), (2, .read 0), (3, .heavy), (4, .pure), (5, .read 1), (6, .heavy), (0, .pure), (7, .alloc), (8, .heavy), (9, .pure)]) | false => match Nat.beq id 19 with | true => some ([0, 1, 0, 7, 0, 0, 32, 111, 0, 256, 0, 1024, 3840, 8175, 16383, 32767], [(0, .pure), (1, .heavy), (2, .pure), (3, .heavy), (5, .pure), (6, .read 2), (7, .heavy), (8, .pure), (9, .read 3), (10, .pure), (11, .read 3), (12, .pure), (13, .heavy), (4, .pure), (14, .alloc), (15, .pure)]) | false => none
def TryF313 : Fun := funX Tryz.prog TryG (fun _ => true) Trye313 Tryp313 lf Tryz.f313
theorem Tryc313 : CallOk Tryz.prog TryG 313 TryF313 := funX_ok Trymix (callsOk_cons Tryc81 (callsOk_cons Tryc83 (callsOk_cons Tryc160 (callsOk_cons Tryc168 (callsOk_cons Tryc353 callsOk_0))))) Tryz.func313 (by kernel_rfl)
def Trye202 : FuncId → Option Fun := fun f => none
def Tryp202 : Plans := fun id => none
def TryF202 : Fun := funX Tryz.prog TryG (fun _ => true) Trye202 Tryp202 lf Tryz.f202
theorem Tryc202 : CallOk Tryz.prog TryG 202 TryF202 := funX_ok Trymix callsOk_0 Tryz.func202 (by kernel_rfl)
def Trye369 : FuncId → Option Fun := fun f => match Nat.beq f 202 with | true => some TryF202 | false => none
def Tryp369 : Plans := fun id => none
def TryF369 : Fun := funX Tryz.prog TryG (fun _ => true) Trye369 Tryp369 lf Tryz.f369
theorem Tryc369 : CallOk Tryz.prog TryG 369 TryF369 := funX_ok Trymix (callsOk_cons Tryc202 callsOk_0) Tryz.func369 (by kernel_rfl)
def Trye291 : FuncId → Option Fun := fun f => match Nat.beq f 160 with | true => some TryF160 | false => match Nat.beq f 369 with | true => some TryF369 | false => none
def Tryp291 : Plans := fun id => none
def TryF291 : Fun := funX Tryz.prog TryG (fun _ => true) Trye291 Tryp291 lf Tryz.f291
theorem Tryc291 : CallOk Tryz.prog TryG 291 TryF291 := funX_ok Trymix (callsOk_cons Tryc160 (callsOk_cons Tryc369 callsOk_0)) Tryz.func291 (by kernel_rfl)
def Trye294 : FuncId → Option Fun := fun f => none
def Tryp294 : Plans := fun id => none
def TryF294 : Fun := funX Tryz.prog TryG (fun _ => true) Trye294 Tryp294 lf Tryz.f294
theorem Tryc294 : CallOk Tryz.prog TryG 294 TryF294 := funX_ok Trymix callsOk_0 Tryz.func294 (by kernel_rfl)
def Trye374 : FuncId → Option Fun := fun f => match Nat.beq f 294 with | true => some TryF294 | false => none
def Tryp374 : Plans := fun id => none
def TryF374 : Fun := funX Tryz.prog TryG (fun _ => true) Trye374 Tryp374 lf Tryz.f374
theorem Tryc374 : CallOk Tryz.prog TryG 374 TryF374 := funX_ok Trymix (callsOk_cons Tryc294 callsOk_0) Tryz.func374 (by kernel_rfl)
def Trye293 : FuncId → Option Fun := fun f => match Nat.beq f 374 with | true => some TryF374 | false => none
def Tryp293 : Plans := fun id => none
def TryF293 : Fun := funX Tryz.prog TryG (fun _ => true) Trye293 Tryp293 lf Tryz.f293
theorem Tryc293 : CallOk Tryz.prog TryG 293 TryF293 := funX_ok Trymix (callsOk_cons Tryc374 callsOk_0) Tryz.func293 (by kernel_rfl)
def Trye195 : FuncId → Option Fun := fun f => match Nat.beq f 293 with | true => some TryF293 | false => none
def Tryp195 : Plans := fun id => none
def TryF195 : Fun := funX Tryz.prog TryG (fun _ => true) Trye195 Tryp195 lf Tryz.f195
theorem Tryc195 : CallOk Tryz.prog TryG 195 TryF195 := funX_ok Trymix (callsOk_cons Tryc293 callsOk_0) Tryz.func195 (by kernel_rfl)
def Trye194 : FuncId → Option Fun := fun f => match Nat.beq f 96 with | true => some TryF96 | false => match Nat.beq f 195 with | true => some TryF195 | false => none
def Tryp194 : Plans := fun id => match Nat.beq id 1 with | true => some ([0, 0, 0, 6, 15, 31, 63], [(1, .read 0), (2, .read 0), (3, .heavy), (0, .read 1), (4, .heavy), (5, .pure), (6, .pure)]) | false => none
def TryF194 : Fun := funX Tryz.prog TryG (fun _ => true) Trye194 Tryp194 lf Tryz.f194
theorem Tryc194 : CallOk Tryz.prog TryG 194 TryF194 := funX_ok Trymix (callsOk_cons Tryc96 (callsOk_cons Tryc195 callsOk_0)) Tryz.func194 (by kernel_rfl)
def Trye203 : FuncId → Option Fun := fun f => match Nat.beq f 194 with | true => some TryF194 | false => match Nat.beq f 223 with | true => some TryF223 | false => none
def Tryp203 : Plans := fun id => none
def TryF203 : Fun := funX Tryz.prog TryG (fun _ => true) Trye203 Tryp203 lf Tryz.f203
theorem Tryc203 : CallOk Tryz.prog TryG 203 TryF203 := funX_ok Trymix (callsOk_cons Tryc194 (callsOk_cons Tryc223 callsOk_0)) Tryz.func203 (by kernel_rfl)
def Trye99 : FuncId → Option Fun := fun f => match Nat.beq f 203 with | true => some TryF203 | false => none
def Tryp99 : Plans := fun id => none
def TryF99 : Fun := funX Tryz.prog TryG (fun _ => true) Trye99 Tryp99 lf Tryz.f99
theorem Tryc99 : CallOk Tryz.prog TryG 99 TryF99 := funX_ok Trymix (callsOk_cons Tryc203 callsOk_0) Tryz.func99 (by kernel_rfl)
def Trye108 : FuncId → Option Fun := fun f => match Nat.beq f 89 with | true => some TryF89 | false => match Nat.beq f 203 with | true => some TryF203 | false => none
def Tryp108 : Plans := fun id => match Nat.beq id 1 with | true => some ([0, 1, 3, 7, 0, 16, 48, 112, 255, 511], [(0, .pure), (1, .pure), (2, .pure), (3, .read 0), (4, .pure), (5, .pure), (6, .pure), (7, .read 0), (8, .heavy), (9, .pure)]) | false => none
def TryF108 : Fun := funX Tryz.prog TryG (fun _ => true) Trye108 Tryp108 lf Tryz.f108
theorem Tryc108 : CallOk Tryz.prog TryG 108 TryF108 := funX_ok Trymix (callsOk_cons Tryc89 (callsOk_cons Tryc203 callsOk_0)) Tryz.func108 (by kernel_rfl)
def Trye470 : FuncId → Option Fun := fun f => none
def Tryp470 : Plans := fun id => match Nat.beq id 4 with | true => some ([0, 0, 3, 7, 15, 15, 15, 111, 239, 15, 15, 1039, 3599, 7695, 16383, 32767, 65535], [(0, .pure), (1, .pure), (2, .pure), (3, .pure), (4, .pure), (5, .pure), (6, .pure), (7, .pure), (8, .read 0), (9, .pure), (10, .pure), (11, .pure), (12, .pure), (13, .read 0), (14, .heavy), (15, .pure), (16, .pure)]) | false => match Nat.beq id 6 with | true => some ([0, 0, 0, 0, 8, 0, 0, 64, 224, 480, 0, 0, 3072, 7168, 16355, 32739, 65535, 131071], [(0, .pure), (1, .pure), (5, .pure), (6, .pure), (7, .pure), (8, .pure), (9, .read 0), (10, .pure), (11, .pure), (12, .pure), (13, .read 0), (14, .pure), (15, .heavy), (2, .pure), (3, .pure), (4, .pure), (16, .pure), (17, .heavy)]) | false => none
def TryF470 : Fun := funX Tryz.prog TryG (fun _ => true) Trye470 Tryp470 lf Tryz.f470
theorem Tryc470 : CallOk Tryz.prog TryG 470 TryF470 := funX_ok Trymix callsOk_0 Tryz.func470 (by kernel_rfl)
def Trye398 : FuncId → Option Fun := fun f => match Nat.beq f 470 with | true => some TryF470 | false => none
def Tryp398 : Plans := fun id => match Nat.beq id 17 with | true => some ([0, 1, 3, 7, 7, 7, 39, 119, 247, 7, 7, 1543, 3591, 8191, 16383, 32767, 65535], [(0, .pure), (1, .pure), (2, .pure), (3, .pure), (4, .pure), (5, .pure), (6, .pure), (7, .pure), (8, .read 0), (9, .pure), (10, .pure), (11, .pure), (12, .read 0), (13, .heavy), (14, .pure), (15, .pure), (16, .pure)]) | false => none
def TryF398 : Fun := funX Tryz.prog TryG (fun _ => true) Trye398 Tryp398 lf Tryz.f398
theorem Tryc398 : CallOk Tryz.prog TryG 398 TryF398 := funX_ok Trymix (callsOk_cons Tryc470 callsOk_0) Tryz.func398 (by kernel_rfl)
def Trye319 : FuncId → Option Fun := fun f => match Nat.beq f 246 with | true => some TryF246 | false => match Nat.beq f 398 with | true => some TryF398 | false => none
def Tryp319 : Plans := fun id => none
def TryF319 : Fun := funX Tryz.prog TryG (fun _ => true) Trye319 Tryp319 lf Tryz.f319
theorem Tryc319 : CallOk Tryz.prog TryG 319 TryF319 := funX_ok Trymix (callsOk_cons Tryc246 (callsOk_cons Tryc398 callsOk_0)) Tryz.func319 (by kernel_rfl)
def Trye224 : FuncId → Option Fun := fun f => match Nat.beq f 16 with | true => some TryF16 | false => match Nat.beq f 319 with | true => some TryF319 | false => none
def Tryp224 : Plans := fun id => none
def TryF224 : Fun := funX Tryz.prog TryG (fun _ => true) Trye224 Tryp224 lf Tryz.f224
theorem Tryc224 : CallOk Tryz.prog TryG 224 TryF224 := funX_ok Trymix (callsOk_cons Tryc16 (callsOk_cons Tryc319 callsOk_0)) Tryz.func224 (by kernel_rfl)
def Trye148 : FuncId → Option Fun := fun f => match Nat.beq f 74 with | true => some TryF74 | false => match Nat.beq f 153 with | true => some TryF153 | false => match Nat.beq f 224 with | true => some TryF224 | false => match Nat.beq f 243 with | true => some TryF243 | false => none
def Tryp148 : Plans := fun id => none
def TryF148 : Fun := funX Tryz.prog TryG (fun _ => true) Trye148 Tryp148 lf Tryz.f148
theorem Tryc148 : CallOk Tryz.prog TryG 148 TryF148 := funX_ok Trymix (callsOk_cons Tryc74 (callsOk_cons Tryc153 (callsOk_cons Tryc224 (callsOk_cons Tryc243 callsOk_0)))) Tryz.func148 (by kernel_rfl)
def Trye65 : FuncId → Option Fun := fun f => match Nat.beq f 9 with | true => some TryF9 | false => match Nat.beq f 62 with | true => some TryF62 | false => match Nat.beq f 63 with | true => some TryF63 | false => match Nat.beq f 69 with | true => some TryF69 | false => match Nat.beq f 80 with | true => some TryF80 | false => match Nat.beq f 81 with | true => some TryF81 | false => match Nat.beq f 94 with | true => some TryF94 | false => match Nat.beq f 148 with | true => some TryF148 | false => none
def Tryp65 : Plans := fun id => none
def TryF65 : Fun := funX Tryz.prog TryG (fun _ => true) Trye65 Tryp65 lf Tryz.f65
theorem Tryc65 : CallOk Tryz.prog TryG 65 TryF65 := funX_ok Trymix (callsOk_cons Tryc9 (callsOk_cons Tryc62 (callsOk_cons Tryc63 (callsOk_cons Tryc69 (callsOk_cons Tryc80 (callsOk_cons Tryc81 (callsOk_cons Tryc94 (callsOk_cons Tryc148 callsOk_0)))))))) Tryz.func65 (by kernel_rfl)
def Trye26 : FuncId → Option Fun := fun f => match Nat.beq f 65 with | true => some TryF65 | false => none
def Tryp26 : Plans := fun id => none
def TryF26 : Fun := funX Tryz.prog TryG (fun _ => true) Trye26 Tryp26 lf Tryz.f26
theorem Tryc26 : CallOk Tryz.prog TryG 26 TryF26 := funX_ok Trymix (callsOk_cons Tryc65 callsOk_0) Tryz.func26 (by kernel_rfl)
def Trye110 : FuncId → Option Fun := fun f => match Nat.beq f 60 with | true => some TryF60 | false => match Nat.beq f 224 with | true => some TryF224 | false => none
def Tryp110 : Plans := fun id => none
def TryF110 : Fun := funX Tryz.prog TryG (fun _ => true) Trye110 Tryp110 lf Tryz.f110
theorem Tryc110 : CallOk Tryz.prog TryG 110 TryF110 := funX_ok Trymix (callsOk_cons Tryc60 (callsOk_cons Tryc224 callsOk_0)) Tryz.func110 (by kernel_rfl)
def Trye27 : FuncId → Option Fun := fun f => match Nat.beq f 65 with | true => some TryF65 | false => none
def Tryp27 : Plans := fun id => none
def TryF27 : Fun := funX Tryz.prog TryG (fun _ => true) Trye27 Tryp27 lf Tryz.f27
theorem Tryc27 : CallOk Tryz.prog TryG 27 TryF27 := funX_ok Trymix (callsOk_cons Tryc65 callsOk_0) Tryz.func27 (by kernel_rfl)
def Trye493 : FuncId → Option Fun := fun f => none
def Tryp493 : Plans := fun id => match Nat.beq id 4 with | true => some ([0, 0, 3, 7, 15, 15, 15, 111, 239, 15, 15, 1039, 3599, 7695, 16383, 32767, 65535], [(0, .pure), (1, .pure), (2, .pure), (3, .pure), (4, .pure), (5, .pure), (6, .pure), (7, .pure), (8, .read 0), (9, .pure), (10, .pure), (11, .pure), (12, .pure), (13, .read 0), (14, .heavy), (15, .pure), (16, .pure)]) | false => match Nat.beq id 6 with | true => some ([0, 0, 0, 0, 8, 0, 0, 64, 224, 480, 0, 0, 3072, 7168, 16355, 32739, 65535, 131071], [(0, .pure), (1, .pure), (5, .pure), (6, .pure), (7, .pure), (8, .pure), (9, .read 0), (10, .pure), (11, .pure), (12, .pure), (13, .read 0), (14, .pure), (15, .heavy), (2, .pure), (3, .pure), (4, .pure), (16, .pure), (17, .heavy)]) | false => none
def TryF493 : Fun := funX Tryz.prog TryG (fun _ => true) Trye493 Tryp493 lf Tryz.f493
theorem Tryc493 : CallOk Tryz.prog TryG 493 TryF493 := funX_ok Trymix callsOk_0 Tryz.func493 (by kernel_rfl)
def Trye441 : FuncId → Option Fun := fun f => match Nat.beq f 493 with | true => some TryF493 | false => none
def Tryp441 : Plans := fun id => match Nat.beq id 17 with | true => some ([0, 1, 3, 7, 7, 7, 39, 119, 247, 7, 7, 1543, 3591, 8191, 16383, 32767, 65535], [(0, .pure), (1, .pure), (2, .pure), (3, .pure), (4, .pure), (5, .pure), (6, .pure), (7, .pure), (8, .read 0), (9, .pure), (10, .pure), (11, .pure), (12, .read 0), (13, .heavy), (14, .pure), (15, .pure), (16, .pure)]) | false => none
def TryF441 : Fun := funX Tryz.prog TryG (fun _ => true) Trye441 Tryp441 lf Tryz.f441
theorem Tryc441 : CallOk Tryz.prog TryG 441 TryF441 := funX_ok Trymix (callsOk_cons Tryc493 callsOk_0) Tryz.func441 (by kernel_rfl)
def Trye371 : FuncId → Option Fun := fun f => match Nat.beq f 246 with | true => some TryF246 | false => match Nat.beq f 441 with | true => some TryF441 | false => none
def Tryp371 : Plans := fun id => none
def TryF371 : Fun := funX Tryz.prog TryG (fun _ => true) Trye371 Tryp371 lf Tryz.f371
theorem Tryc371 : CallOk Tryz.prog TryG 371 TryF371 := funX_ok Trymix (callsOk_cons Tryc246 (callsOk_cons Tryc441 callsOk_0)) Tryz.func371 (by kernel_rfl)
def Trye292 : FuncId → Option Fun := fun f => match Nat.beq f 370 with | true => some TryF370 | false => match Nat.beq f 371 with | true => some TryF371 | false => none
def Tryp292 : Plans := fun id => match Nat.beq id 8 with | true => some ([0, 1, 3, 7, 15, 31, 7, 7, 135, 455, 967, 1991, 4095, 8191], [(0, .pure), (1, .pure), (2, .pure), (3, .pure), (4, .read 0), (5, .pure), (6, .pure), (7, .pure), (8, .pure), (9, .pure), (10, .pure), (11, .read 0), (12, .pure), (13, .pure)]) | false => match Nat.beq id 9 with | true => some ([0, 0, 2, 0, 0, 16, 56, 120, 248, 0, 512, 2040, 4095, 8191, 16383], [(0, .pure), (1, .pure), (2, .pure), (3, .pure), (4, .pure), (5, .pure), (6, .pure), (7, .pure), (8, .read 0), (9, .pure), (10, .read 0), (11, .pure), (12, .pure), (13, .pure), (14, .heavy)]) | false => none
def TryF292 : Fun := funX Tryz.prog TryG (fun _ => true) Trye292 Tryp292 lf Tryz.f292
theorem Tryc292 : CallOk Tryz.prog TryG 292 TryF292 := funX_ok Trymix (callsOk_cons Tryc370 (callsOk_cons Tryc371 callsOk_0)) Tryz.func292 (by kernel_rfl)
def Trye193 : FuncId → Option Fun := fun f => match Nat.beq f 290 with | true => some TryF290 | false => match Nat.beq f 291 with | true => some TryF291 | false => match Nat.beq f 292 with | true => some TryF292 | false => none
def Tryp193 : Plans := fun id => none
def TryF193 : Fun := funX Tryz.prog TryG (fun _ => true) Trye193 Tryp193 lf Tryz.f193
theorem Tryc193 : CallOk Tryz.prog TryG 193 TryF193 := funX_ok Trymix (callsOk_cons Tryc290 (callsOk_cons Tryc291 (callsOk_cons Tryc292 callsOk_0))) Tryz.func193 (by kernel_rfl)
def Trye90 : FuncId → Option Fun := fun f => match Nat.beq f 89 with | true => some TryF89 | false => match Nat.beq f 94 with | true => some TryF94 | false => match Nat.beq f 99 with | true => some TryF99 | false => match Nat.beq f 193 with | true => some TryF193 | false => none
def Tryp90 : Plans := fun id => match Nat.beq id 10 with | true => some ([0, 1, 3, 7, 0, 16, 48, 112, 255, 0, 1023, 2047, 4095], [(0, .read 0), (1, .pure), (2, .pure), (3, .read 0), (4, .read 0), (5, .pure), (6, .pure), (7, .read 0), (8, .heavy), (9, .pure), (10, .heavy), (11, .pure), (12, .pure)]) | false => none
def TryF90 : Fun := funX Tryz.prog TryG (fun _ => true) Trye90 Tryp90 lf Tryz.f90
theorem Tryc90 : CallOk Tryz.prog TryG 90 TryF90 := funX_ok Trymix (callsOk_cons Tryc89 (callsOk_cons Tryc94 (callsOk_cons Tryc99 (callsOk_cons Tryc193 callsOk_0)))) Tryz.func90 (by kernel_rfl)
def Trye510 : FuncId → Option Fun := fun f => none
def Tryp510 : Plans := fun id => none
def TryF510 : Fun := funX Tryz.prog TryG (fun _ => true) Trye510 Tryp510 lf Tryz.f510
theorem Tryc510 : CallOk Tryz.prog TryG 510 TryF510 := funX_ok Trymix callsOk_0 Tryz.func510 (by kernel_rfl)
def Trye456 : FuncId → Option Fun := fun f => match Nat.beq f 510 with | true => some TryF510 | false => none
def Tryp456 : Plans := fun id => none
def TryF456 : Fun := funX Tryz.prog TryG (fun _ => true) Trye456 Tryp456 lf Tryz.f456
theorem Tryc456 : CallOk Tryz.prog TryG 456 TryF456 := funX_ok Trymix (callsOk_cons Tryc510 callsOk_0) Tryz.func456 (by kernel_rfl)
def Trye384 : FuncId → Option Fun := fun f => match Nat.beq f 456 with | true => some TryF456 | false => none
def Tryp384 : Plans := fun id => none
def TryF384 : Fun := funX Tryz.prog TryG (fun _ => true) Trye384 Tryp384 lf Tryz.f384
theorem Tryc384 : CallOk Tryz.prog TryG 384 TryF384 := funX_ok Trymix (callsOk_cons Tryc456 callsOk_0) Tryz.func384 (by kernel_rfl)
def Trye385 : FuncId → Option Fun := fun f => match Nat.beq f 160 with | true => some TryF160 | false => match Nat.beq f 202 with | true => some TryF202 | false => match Nat.beq f 225 with | true => some TryF225 | false => match Nat.beq f 384 with | true => some TryF384 | false => none
def Tryp385 : Plans := fun id => none
def TryF385 : Fun := funX Tryz.prog TryG (fun _ => true) Trye385 Tryp385 lf Tryz.f385
theorem Tryc385 : CallOk Tryz.prog TryG 385 TryF385 := funX_ok Trymix (callsOk_cons Tryc160 (callsOk_cons Tryc202 (callsOk_cons Tryc225 (callsOk_cons Tryc384 callsOk_0)))) Tryz.func385 (by kernel_rfl)
def Trye305 : FuncId → Option Fun := fun f => match Nat.beq f 160 with | true => some TryF160 | false => match Nat.beq f 216 with | true => some TryF216 | false => match Nat.beq f 384 with | true => some TryF384 | false => match Nat.beq f 81 with | true => some TryF81 | false => match Nat.beq f 385 with | true => some TryF385 | false => none
def Tryp305 : Plans := fun id => match Nat.beq id 12 with | true => some ([0, 1, 0, 4, 12, 28, 63, 127, 255], [(2, .pure), (3, .heavy), (0, .pure), (1, .read 1), (4, .pure), (5, .pure), (6, .pure), (7, .pure), (8, .heavy)]) | false => none
def TryF305 : Fun := funX Tryz.prog TryG (fun _ => true) Trye305 Tryp305 lf Tryz.f305
theorem Tryc305 : CallOk Tryz.prog TryG 305 TryF305 := funX_ok Trymix (callsOk_cons Tryc160 (callsOk_cons Tryc216 (callsOk_cons Tryc384 (callsOk_cons Tryc81 (callsOk_cons Tryc385 callsOk_0))))) Tryz.func305 (by kernel_rfl)
def Trye201 : FuncId → Option Fun := fun f => match Nat.beq f 78 with | true => some TryF78 | false => match Nat.beq f 102 with | true => some TryF102 | false => match Nat.beq f 305 with | true => some TryF305 | false => none
def Tryp201 : Plans := fun id => match Nat.beq id 4 with | true => some ([0, 0, 2, 6, 1, 31], [(0, .read 0), (4, .heavy), (1, .pure), (2, .read 1), (3, .pure), (5, .pure)]) | false => match Nat.beq id 6 with | true => some ([0, 0, 2, 6, 14, 30, 62, 7, 255], [(0, .read 0), (1, .pure), (2, .pure), (7, .heavy), (3, .pure), (4, .read 1), (5, .pure), (6, .pure), (8, .pure)]) | false => none
def TryF201 : Fun := funX Tryz.prog TryG (fun _ => true) Trye201 Tryp201 lf Tryz.f201
theorem Tryc201 : CallOk Tryz.prog TryG 201 TryF201 := funX_ok Trymix (callsOk_cons Tryc78 (callsOk_cons Tryc102 (callsOk_cons Tryc305 callsOk_0))) Tryz.func201 (by kernel_rfl)
def Trye97 : FuncId → Option Fun := fun f => match Nat.beq f 78 with | true => some TryF78 | false => match Nat.beq f 200 with | true => some TryF200 | false => match Nat.beq f 201 with | true => some TryF201 | false => none
def Tryp97 : Plans := fun id => none
def TryF97 : Fun := funX Tryz.prog TryG (fun _ => true) Trye97 Tryp97 lf Tryz.f97
theorem Tryc97 : CallOk Tryz.prog TryG 97 TryF97 := funX_ok Trymix (callsOk_cons Tryc78 (callsOk_cons Tryc200 (callsOk_cons Tryc201 callsOk_0))) Tryz.func97 (by kernel_rfl)
def Trye458 : FuncId → Option Fun := fun f => match Nat.beq f 510 with | true => some TryF510 | false => none
def Tryp458 : Plans := fun id => none
def TryF458 : Fun := funX Tryz.prog TryG (fun _ => true) Trye458 Tryp458 lf Tryz.f458
theorem Tryc458 : CallOk Tryz.prog TryG 458 TryF458 := funX_ok Trymix (callsOk_cons Tryc510 callsOk_0) Tryz.func458 (by kernel_rfl)
def Trye394 : FuncId → Option Fun := fun f => match Nat.beq f 458 with | true => some TryF458 | false => none
def Tryp394 : Plans := fun id => none
def TryF394 : Fun := funX Tryz.prog TryG (fun _ => true) Trye394 Tryp394 lf Tryz.f394
theorem Tryc394 : CallOk Tryz.prog TryG 394 TryF394 := funX_ok Trymix (callsOk_cons Tryc458 callsOk_0) Tryz.func394 (by kernel_rfl)
def Trye392 : FuncId → Option Fun := fun f => match Nat.beq f 393 with | true => some TryF393 | false => match Nat.beq f 394 with | true => some TryF394 | false => none
def Tryp392 : Plans := fun id => match Nat.beq id 9 with | true => some ([0, 1, 0, 0, 8, 0, 32, 0, 128, 508, 1020, 2047, 4095, 8191], [(2, .read 0), (3, .pure), (4, .read 0), (5, .pure), (6, .read 0), (7, .pure), (8, .pure), (9, .heavy), (0, .pure), (1, .read 1), (10, .alloc), (11, .heavy), (12, .pure), (13, .heavy)]) | false => none
def TryF392 : Fun := funX Tryz.prog TryG (fun _ => true) Trye392 Tryp392 lf Tryz.f392
theorem Tryc392 : CallOk Tryz.prog TryG 392 TryF392 := funX_ok Trymix (callsOk_cons Tryc393 (callsOk_cons Tryc394 callsOk_0)) Tryz.func392 (by kernel_rfl)
def Trye173 : FuncId → Option Fun := fun f => none
def Tryp173 : Plans := fun id => none
def TryF173 : Fun := funX Tryz.prog TryG (fun _ => true) Trye173 Tryp173 lf Tryz.f173
theorem Tryc173 : CallOk Tryz.prog TryG 173 TryF173 := funX_ok Trymix callsOk_0 Tryz.func173 (by kernel_rfl)
def Trye79 : FuncId → Option Fun := fun f => match Nat.beq f 173 with | true => some TryF173 | false => none
def Tryp79 : Plans := fun id => none
def TryF79 : Fun := funX Tryz.prog TryG (fun _ => true) Trye79 Tryp79 lf Tryz.f79
theorem Tryc79 : CallOk Tryz.prog TryG 79 TryF79 := funX_ok Trymix (callsOk_cons Tryc173 callsOk_0) Tryz.func79 (by kernel_rfl)
def Trye222 : FuncId → Option Fun := fun f => none
def Tryp222 : Plans := fun id => none
def TryF222 : Fun := funX Tryz.prog TryG (fun _ => true) Trye222 Tryp222 lf Tryz.f222
theorem Tryc222 : CallOk Tryz.prog TryG 222 TryF222 := funX_ok Trymix callsOk_0 Tryz.func222 (by kernel_rfl)
def Trye106 : FuncId → Option Fun := fun f => match Nat.beq f 47 with | true => some TryF47 | false => match Nat.beq f 220 with | true => some TryF220 | false => match Nat.beq f 221 with | true => some TryF221 | false => match Nat.beq f 49 with | true => some TryF49 | false => match Nat.beq f 52 with | true => some TryF52 | false => match Nat.beq f 55 with | true => some TryF55 | false => match Nat.beq f 56 with | true => some TryF56 | false => match Nat.beq f 79 with | true => some TryF79 | false => match Nat.beq f 222 with | true => some TryF222 | false => none
def Tryp106 : Plans := fun id => match Nat.beq id 16 with | true => some ([0, 1, 0, 4, 12, 28, 63, 127], [(0, .pure), (1, .heavy), (2, .pure), (3, .pure), (4, .pure), (5, .read 1), (6, .heavy), (7, .pure)]) | false => match Nat.beq id 19 with | true => some ([0, 1, 3, 7, 0, 0, 0, 112, 0, 0, 768, 1792, 4080, 8191], [(4, .pure), (5, .pure), (6, .pure), (7, .heavy), (8, .pure), (9, .pure), (10, .pure), (11, .alloc), (12, .heavy), (0, .pure), (1, .pure), (2, .pure), (3, .read 2), (13, .heavy)]) | false => none
def TryF106 : Fun := funX Tryz.prog TryG (fun _ => true) Trye106 Tryp106 lf Tryz.f106
theorem Tryc106 : CallOk Tryz.prog TryG 106 TryF106 := funX_ok Trymix (callsOk_cons Tryc47 (callsOk_cons Tryc220 (callsOk_cons Tryc221 (callsOk_cons Tryc49 (callsOk_cons Tryc52 (callsOk_cons Tryc55 (callsOk_cons Tryc56 (callsOk_cons Tryc79 (callsOk_cons Tryc222 callsOk_0))))))))) Tryz.func106 (by kernel_rfl)
def Trye306 : FuncId → Option Fun := fun f => none
def Tryp306 : Plans := fun id => none
def TryF306 : Fun := funX Tryz.prog TryG (fun _ => true) Trye306 Tryp306 lf Tryz.f306
theorem Tryc306 : CallOk Tryz.prog TryG 306 TryF306 := funX_ok Trymix callsOk_0 Tryz.func306 (by kernel_rfl)
def Trye206 : FuncId → Option Fun := fun f => match Nat.beq f 83 with | true => some TryF83 | false => match Nat.beq f 306 with | true => some TryF306 | false => none
def Tryp206 : Plans := fun id => none
def TryF206 : Fun := funX Tryz.prog TryG (fun _ => true) Trye206 Tryp206 lf Tryz.f206
theorem Tryc206 : CallOk Tryz.prog TryG 206 TryF206 := funX_ok Trymix (callsOk_cons Tryc83 (callsOk_cons Tryc306 callsOk_0)) Tryz.func206 (by kernel_rfl)
def Trye129 : FuncId → Option Fun := fun f => match Nat.beq f 41 with | true => some TryF41 | false => match Nat.beq f 130 with | true => some TryF130 | false => match Nat.beq f 224 with | true => some TryF224 | false => match Nat.beq f 239 with | true => some TryF239 | false => match Nat.beq f 60 with | true => some TryF60 | false => match Nat.beq f 81 with | true => some TryF81 | false => match Nat.beq f 206 with | true => some TryF206 | false => match Nat.beq f 238 with | true => some TryF238 | false => none
def Tryp129 : Plans := fun id => match Nat.beq id 18 with | true => some ([0, 1, 3, 7, 15, 3, 35, 99, 255, 511], [(0, .pure), (1, .pure), (5, .pure), (6, .read 0), (7, .heavy), (2, .pure), (3, .pure), (4, .read 1), (8, .pure), (9, .pure)]) | false => match Nat.beq id 20 with | true => some ([0, 0, 2, 0, 8, 24, 0, 64, 192, 504, 0, 1024, 3072, 8184, 16376, 32760, 65528, 131071], [(3, .pure), (4, .read 0), (5, .heavy), (6, .pure), (7, .pure), (8, .read 1), (9, .heavy), (10, .pure), (11, .pure), (12, .read 2), (13, .heavy), (0, .pure), (1, .pure), (2, .pure), (14, .pure), (15, .pure), (16, .alloc), (17, .heavy)]) | false => match Nat.beq id 22 with | true => some ([0, 1, 3, 7, 0, 16, 48, 112, 240, 15, 1023], [(0, .pure), (1, .pure), (2, .pure), (3, .read 0), (4, .pure), (5, .pure), (6, .pure), (7, .read 0), (8, .pure), (9, .pure), (10, .pure)]) | false => none
def TryF129 : Fun := funX Tryz.prog TryG (fun _ => true) Trye129 Tryp129 lf Tryz.f129
theorem Tryc129 : CallOk Tryz.prog TryG 129 TryF129 := funX_ok Trymix (callsOk_cons Tryc41 (callsOk_cons Tryc130 (callsOk_cons Tryc224 (callsOk_cons Tryc239 (callsOk_cons Tryc60 (callsOk_cons Tryc81 (callsOk_cons Tryc206 (callsOk_cons Tryc238 callsOk_0)))))))) Tryz.func129 (by kernel_rfl)
def Trye205 : FuncId → Option Fun := fun f => match Nat.beq f 206 with | true => some TryF206 | false => none
def Tryp205 : Plans := fun id => none
def TryF205 : Fun := funX Tryz.prog TryG (fun _ => true) Trye205 Tryp205 lf Tryz.f205
theorem Tryc205 : CallOk Tryz.prog TryG 205 TryF205 := funX_ok Trymix (callsOk_cons Tryc206 callsOk_0) Tryz.func205 (by kernel_rfl)
def Trye464 : FuncId → Option Fun := fun f => none
def Tryp464 : Plans := fun id => none
def TryF464 : Fun := funX Tryz.prog TryG (fun _ => true) Trye464 Tryp464 lf Tryz.f464
theorem Tryc464 : CallOk Tryz.prog TryG 464 TryF464 := funX_ok Trymix callsOk_0 Tryz.func464 (by kernel_rfl)
def Trye465 : FuncId → Option Fun := fun f => match Nat.beq f 83 with | true => some TryF83 | false => match Nat.beq f 464 with | true => some TryF464 | false => match Nat.beq f 516 with | true => some TryF516 | false => none
def Tryp465 : Plans := fun id => match Nat.beq id 6 with | true => some ([0, 0, 2, 6, 14, 0, 32, 126, 255, 511, 1023], [(1, .pure), (2, .pure), (3, .pure), (4, .read 0), (5, .read 0), (6, .alloc), (7, .heavy), (0, .pure), (8, .pure), (9, .pure), (10, .heavy)]) | false => none
def TryF465 : Fun := funX Tryz.prog TryG (fun _ => true) Trye465 Tryp465 lf Tryz.f465
theorem Tryc465 : CallOk Tryz.prog TryG 465 TryF465 := funX_ok Trymix (callsOk_cons Tryc83 (callsOk_cons Tryc464 (callsOk_cons Tryc516 callsOk_0))) Tryz.func465 (by kernel_rfl)
def Trye390 : FuncId → Option Fun := fun f => match Nat.beq f 465 with | true => some TryF465 | false => none
def Tryp390 : Plans := fun id => match Nat.beq id 16 with | true => some ([0, 0, 2, 6, 14, 0, 32, 96, 254, 511, 1023, 2047], [(5, .pure), (6, .heavy), (1, .pure), (2, .pure), (3, .pure), (4, .read 1), (7, .alloc), (8, .heavy), (0, .pure), (9, .pure), (10, .pure), (11, .heavy)]) | false => match Nat.beq id 26 with | true => some ([0, 0, 2, 6, 14, 0, 0, 0, 128, 384, 896, 2016, 4064, 8190, 16383, 32767, 65535], [(1, .pure), (2, .pure), (3, .pure), (4, .read 0), (5, .pure), (6, .pure), (7, .pure), (8, .pure), (9, .pure), (10, .read 0), (11, .pure), (12, .alloc), (13, .heavy), (0, .pure), (14, .pure), (15, .pure), (16, .heavy)]) | false => none
def TryF390 : Fun := funX Tryz.prog TryG (fun _ => true) Trye390 Tryp390 lf Tryz.f390
theorem Tryc390 : CallOk Tryz.prog TryG 390 TryF390 := funX_ok Trymix (callsOk_cons Tryc465 callsOk_0) Tryz.func390 (by kernel_rfl)
def Trye310 : FuncId → Option Fun := fun f => match Nat.beq f 144 with | true => some TryF144 | false => match Nat.beq f 390 with | true => some TryF390 | false => none
def Tryp310 : Plans := fun id => match Nat.beq id 14 with | true => some ([0, 0, 0, 4, 12, 0, 32, 124, 254, 511], [(2, .pure), (3, .read 0), (4, .heavy), (5, .pure), (6, .read 1), (7, .heavy), (0, .pure), (1, .pure), (8, .alloc), (9, .heavy)]) | false => none
def TryF310 : Fun := funX Tryz.prog TryG (fun _ => true) Trye310 Tryp310 lf Tryz.f310
theorem Tryc310 : CallOk Tryz.prog TryG 310 TryF310 := funX_ok Trymix (callsOk_cons Tryc144 (callsOk_cons Tryc390 callsOk_0)) Tryz.func310 (by kernel_rfl)
def Trye311 : FuncId → Option Fun := fun f => match Nat.beq f 310 with | true => some TryF310 | false => none
def Tryp311 : Plans := fun id => none
def TryF311 : Fun := funX Tryz.prog TryG (fun _ => true) Trye311 Tryp311 lf Tryz.f311
theorem Tryc311 : CallOk Tryz.prog TryG 311 TryF311 := funX_ok Trymix (callsOk_cons Tryc310 callsOk_0) Tryz.func311 (by kernel_rfl)
def Trye212 : FuncId → Option Fun := fun f => match Nat.beq f 83 with | true => some TryF83 | false => match Nat.beq f 309 with | true => some TryF309 | false => match Nat.beq f 310 with | true => some TryF310 | false => match Nat.beq f 311 with | true => some TryF311 | false => match Nat.beq f 312 with | true => some TryF312 | false => none
def Tryp212 : Plans := fun id => match Nat.beq id 4 with | true => some ([0, 1, 0, 7, 0, 0, 47, 0, 239, 0, 1007, 0, 4079, 0, 16367, 0, 65519, 0, 262127, 524287, 1048575, 2097151, 4194303, 8388607], [(0, .read 0), (1, .heavy), (2, .read 1), (3, .heavy), (5, .pure), (6, .heavy), (7, .pure), (8, .heavy), (9, .read 4), (10, .heavy), (11, .read 5), (12, .heavy), (13, .read 6), (14, .heavy), (15, .read 7), (16, .heavy), (17, .read 8), (18, .heavy), (4, .read 9), (19, .alloc), (20, .heavy), (21, .pure), (22, .pure), (23, .pure)]) | false => none
def TryF212 : Fun := funX Tryz.prog TryG (fun _ => true) Trye212 Tryp212 lf Tryz.f212
theorem Tryc212 : CallOk Tryz.prog TryG 212 TryF212 := funX_ok Trymix (callsOk_cons Tryc83 (callsOk_cons Tryc309 (callsOk_cons Tryc310 (callsOk_cons Tryc311 (callsOk_cons Tryc312 callsOk_0))))) Tryz.func212 (by kernel_rfl)
def Trye211 : FuncId → Option Fun := fun f => match Nat.beq f 212 with | true => some TryF212 | false => none
def Tryp211 : Plans := fun id => none
def TryF211 : Fun := funX Tryz.prog TryG (fun _ => true) Trye211 Tryp211 lf Tryz.f211
theorem Tryc211 : CallOk Tryz.prog TryG 211 TryF211 := funX_ok Trymix (callsOk_cons Tryc212 callsOk_0) Tryz.func211 (by kernel_rfl)
def Trye391 : FuncId → Option Fun := fun f => none
def Tryp391 : Plans := fun id => none
def TryF391 : Fun := funX Tryz.prog TryG (fun _ => true) Trye391 Tryp391 lf Tryz.f391
theorem Tryc391 : CallOk Tryz.prog TryG 391 TryF391 := funX_ok Trymix callsOk_0 Tryz.func391 (by kernel_rfl)
def Trye314 : FuncId → Option Fun := fun f => match Nat.beq f 391 with | true => some TryF391 | false => match Nat.beq f 392 with | true => some TryF392 | false => none
def Tryp314 : Plans := fun id => none
def TryF314 : Fun := funX Tryz.prog TryG (fun _ => true) Trye314 Tryp314 lf Tryz.f314
theorem Tryc314 : CallOk Tryz.prog TryG 314 TryF314 := funX_ok Trymix (callsOk_cons Tryc391 (callsOk_cons Tryc392 callsOk_0)) Tryz.func314 (by kernel_rfl)
def Trye214 : FuncId → Option Fun := fun f => match Nat.beq f 313 with | true => some TryF313 | false => match Nat.beq f 314 with | true => some TryF314 | false => none
def Tryp214 : Plans := fun id => none
def TryF214 : Fun := funX Tryz.prog TryG (fun _ => true) Trye214 Tryp214 lf Tryz.f214
theorem Tryc214 : CallOk Tryz.prog TryG 214 TryF214 := funX_ok Trymix (callsOk_cons Tryc313 (callsOk_cons Tryc314 callsOk_0)) Tryz.func214 (by kernel_rfl)
def Trye213 : FuncId → Option Fun := fun f => match Nat.beq f 214 with | true => some TryF214 | false => none
def Tryp213 : Plans := fun id => none
def TryF213 : Fun := funX Tryz.prog TryG (fun _ => true) Trye213 Tryp213 lf Tryz.f213
theorem Tryc213 : CallOk Tryz.prog TryG 213 TryF213 := funX_ok Trymix (callsOk_cons Tryc214 callsOk_0) Tryz.func213 (by kernel_rfl)
def Trye37 : FuncId → Option Fun := fun f => match Nat.beq f 62 with | true => some TryF62 | false => match Nat.beq f 90 with | true => some TryF90 | false => match Nat.beq f 97 with | true => some TryF97 | false => match Nat.beq f 101 with | true => some TryF101 | false => match Nat.beq f 104 with | true => some TryF104 | false => match Nat.beq f 106 with | true => some TryF106 | false => match Nat.beq f 107 with | true => some TryF107 | false => match Nat.beq f 108 with | true => some TryF108 | false => match Nat.beq f 109 with | true => some TryF109 | false => match Nat.beq f 315 with | true => some TryF315 | false => match Nat.beq f 110 with | true => some TryF110 | false => match Nat.beq f 205 with | true => some TryF205 | false => match Nat.beq f 211 with | true => some TryF211 | false => match Nat.beq f 213 with | true => some TryF213 | false => none
def Tryp37 : Plans := fun id => match Nat.beq id 20 with | true => some ([0, 1, 3, 7, 0, 16, 48, 0, 128, 384, 896, 0, 3968, 8191], [(7, .pure), (8, .pure), (9, .read 0), (10, .heavy), (11, .alloc), (12, .heavy), (0, .pure), (1, .pure), (2, .pure), (3, .read 2), (4, .pure), (5, .pure), (6, .read 2), (13, .heavy)]) | false => match Nat.beq id 29 with | true => some ([0, 0, 2, 6, 0, 16, 0, 112, 254, 510, 1023, 2047], [(4, .pure), (5, .read 0), (6, .read 0), (7, .heavy), (0, .pure), (1, .pure), (2, .read 1), (3, .pure), (8, .pure), (9, .alloc), (10, .heavy), (11, .pure)]) | false => match Nat.beq id 33 with | true => some ([0, 1, 3, 7, 0, 16, 48, 112, 0, 256, 1023], [(0, .pure), (1, .pure), (2, .pure), (3, .read 0), (4, .pure), (5, .pure), (6, .pure), (7, .read 0), (8, .pure), (9, .read 0), (10, .heavy)]) | false => none
def TryF37 : Fun := funX Tryz.prog TryG (fun _ => true) Trye37 Tryp37 lf Tryz.f37
theorem Tryc37 : CallOk Tryz.prog TryG 37 TryF37 := funX_ok Trymix (callsOk_cons Tryc62 (callsOk_cons Tryc90 (callsOk_cons Tryc97 (callsOk_cons Tryc101 (callsOk_cons Tryc104 (callsOk_cons Tryc106 (callsOk_cons Tryc107 (callsOk_cons Tryc108 (callsOk_cons Tryc109 (callsOk_cons Tryc315 (callsOk_cons Tryc110 (callsOk_cons Tryc205 (callsOk_cons Tryc211 (callsOk_cons Tryc213 callsOk_0)))))))))))))) Tryz.func37 (by kernel_rfl)
def Trye126 : FuncId → Option Fun := fun f => match Nat.beq f 23 with | true => some TryF23 | false => match Nat.beq f 25 with | true => some TryF25 | false => match Nat.beq f 26 with | true => some TryF26 | false => match Nat.beq f 37 with | true => some TryF37 | false => match Nat.beq f 27 with | true => some TryF27 | false => none
def Tryp126 : Plans := fun id => none
def TryF126 : Fun := funX Tryz.prog TryG (fun _ => true) Trye126 Tryp126 lf Tryz.f126
theorem Tryc126 : CallOk Tryz.prog TryG 126 TryF126 := funX_ok Trymix (callsOk_cons Tryc23 (callsOk_cons Tryc25 (callsOk_cons Tryc26 (callsOk_cons Tryc37 (callsOk_cons Tryc27 callsOk_0))))) Tryz.func126 (by kernel_rfl)
def Trye46 : FuncId → Option Fun := fun f => match Nat.beq f 62 with | true => some TryF62 | false => match Nat.beq f 124 with | true => some TryF124 | false => match Nat.beq f 125 with | true => some TryF125 | false => match Nat.beq f 126 with | true => some TryF126 | false => match Nat.beq f 127 with | true => some TryF127 | false => match Nat.beq f 128 with | true => some TryF128 | false => match Nat.beq f 129 with | true => some TryF129 | false => match Nat.beq f 130 with | true => some TryF130 | false => none
def Tryp46 : Plans := fun id => match Nat.beq id 16 with | true => some ([0, 1, 3, 0, 8, 24, 56, 0, 0, 256, 768, 2040, 4095], [(3, .pure), (4, .pure), (5, .pure), (6, .read 0), (7, .pure), (8, .pure), (9, .read 0), (10, .pure), (11, .heavy), (0, .pure), (1, .pure), (2, .pure), (12, .heavy)]) | false => match Nat.beq id 20 with | true => some ([0, 1, 3, 7, 0, 16, 48, 15, 255], [(0, .pure), (1, .pure), (2, .pure), (3, .heavy), (4, .pure), (5, .read 1), (6, .pure), (7, .pure), (8, .pure)]) | false => none
def TryF46 : Fun := funX Tryz.prog TryG (fun _ => true) Trye46 Tryp46 lf Tryz.f46
theorem Tryc46 : CallOk Tryz.prog TryG 46 TryF46 := funX_ok Trymix (callsOk_cons Tryc62 (callsOk_cons Tryc124 (callsOk_cons Tryc125 (callsOk_cons Tryc126 (callsOk_cons Tryc127 (callsOk_cons Tryc128 (callsOk_cons Tryc129 (callsOk_cons Tryc130 callsOk_0)))))))) Tryz.func46 (by kernel_rfl)
def Trye11 : FuncId → Option Fun := fun f => match Nat.beq f 44 with | true => some TryF44 | false => match Nat.beq f 45 with | true => some TryF45 | false => match Nat.beq f 46 with | true => some TryF46 | false => none
def Tryp11 : Plans := fun id => none
def TryF11 : Fun := funX Tryz.prog TryG (fun _ => true) Trye11 Tryp11 lf Tryz.f11
theorem Tryc11 : CallOk Tryz.prog TryG 11 TryF11 := funX_ok Trymix (callsOk_cons Tryc44 (callsOk_cons Tryc45 (callsOk_cons Tryc46 callsOk_0))) Tryz.func11 (by kernel_rfl)
def Trye6 : FuncId → Option Fun := fun f => match Nat.beq f 8 with | true => some TryF8 | false => match Nat.beq f 11 with | true => some TryF11 | false => match Nat.beq f 18 with | true => some TryF18 | false => match Nat.beq f 19 with | true => some TryF19 | false => match Nat.beq f 20 with | true => some TryF20 | false => match Nat.beq f 21 with | true => some TryF21 | false => none
def Tryp6 : Plans := fun id => none
def TryF6 : Fun := funX Tryz.prog TryG (fun _ => true) Trye6 Tryp6 lf Tryz.f6
theorem Tryc6 : CallOk Tryz.prog TryG 6 TryF6 := funX_ok Trymix (callsOk_cons Tryc8 (callsOk_cons Tryc11 (callsOk_cons Tryc18 (callsOk_cons Tryc19 (callsOk_cons Tryc20 (callsOk_cons Tryc21 callsOk_0)))))) Tryz.func6 (by kernel_rfl)
def Trye15 : FuncId → Option Fun := fun f => match Nat.beq f 8 with | true => some TryF8 | false => match Nat.beq f 11 with | true => some TryF11 | false => none
def Tryp15 : Plans := fun id => none
def TryF15 : Fun := funX Tryz.prog TryG (fun _ => true) Trye15 Tryp15 lf Tryz.f15
theorem Tryc15 : CallOk Tryz.prog TryG 15 TryF15 := funX_ok Trymix (callsOk_cons Tryc8 (callsOk_cons Tryc11 callsOk_0)) Tryz.func15 (by kernel_rfl)
end Go.Proofs.ImS
