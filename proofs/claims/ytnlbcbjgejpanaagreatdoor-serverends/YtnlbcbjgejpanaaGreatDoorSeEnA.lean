/- Part of the value machine, or of a walk by it: lemmas that the claim's last text uses. No conditions. -/
import Derived.Test.YtnlbcbjgejpanaaGreatDoorChecked
import Derived.KernelRfl
import Derived.Test.YtnlbcbjgejpanaaGreatDoorSeVmE
import Derived.Test.YtnlbcbjgejpanaaGreatDoorSeVmH
import Derived.Test.YtnlbcbjgejpanaaGreatDoorSeVmJ
import Derived.Test.YtnlbcbjgejpanaaGreatDoorSeVmK
import Derived.Test.YtnlbcbjgejpanaaGreatDoorSeVmM
set_option linter.unusedVariables false
set_option linter.unusedSimpArgs false
set_option linter.unnecessarySimpa false
noncomputable section
namespace Go.Proofs.ImE
open Go Go.Proofs Go.Vm
set_option linter.unusedVariables false
set_option maxRecDepth 100000
set_option maxHeartbeats 4000000
theorem Trymix : Tryz.prog.follows .mixedOrders = true := Tryz.checked.mixed
def TryG : Nat := 7
def Trye7 : FuncId → Option Fun := fun f => none
def Tryp7 : Plans := fun id => none
def TryF7 : Fun := funX Tryz.prog TryG (fun _ => true) Trye7 Tryp7 lf Tryz.f7
theorem Tryc7 : CallOk Tryz.prog TryG 7 TryF7 := funX_ok Trymix callsOk_0 Tryz.func7 (by kernel_rfl)
def Trye8 : FuncId → Option Fun := fun f => none
def Tryp8 : Plans := fun id => none
def TryF8 : Fun := funX Tryz.prog TryG (fun _ => true) Trye8 Tryp8 lf Tryz.f8
theorem Tryc8 : CallOk Tryz.prog TryG 8 TryF8 := funX_ok Trymix callsOk_0 Tryz.func8 (by kernel_rfl)
def Trye15 : FuncId → Option Fun := fun f => none
def Tryp15 : Plans := fun id => none
def TryF15 : Fun := funX Tryz.prog TryG (fun _ => true) Trye15 Tryp15 lf Tryz.f15
theorem Tryc15 : CallOk Tryz.prog TryG 15 TryF15 := funX_ok Trymix callsOk_0 Tryz.func15 (by kernel_rfl)
def Trye17 : FuncId → Option Fun := fun f => none
def Tryp17 : Plans := fun id => none
def TryF17 : Fun := funX Tryz.prog TryG (fun _ => true) Trye17 Tryp17 lf Tryz.f17
theorem Tryc17 : CallOk Tryz.prog TryG 17 TryF17 := funX_ok Trymix callsOk_0 Tryz.func17 (by kernel_rfl)
def Trye24 : FuncId → Option Fun := fun f => none
def Tryp24 : Plans := fun id => none
def TryF24 : Fun := funX Tryz.prog TryG (fun _ => true) Trye24 Tryp24 lf Tryz.f24
theorem Tryc24 : CallOk Tryz.prog TryG 24 TryF24 := funX_ok Trymix callsOk_0 Tryz.func24 (by kernel_rfl)
def TryF26 : Fun := atomAdd .i64
theorem Tryc26 : CallOk Tryz.prog TryG 26 TryF26 := atomAdd_ok Tryz.func26 (by kernel_rfl) (by kernel_rfl) (by kernel_rfl) .i64 (by kernel_rfl)
def Trye16 : FuncId → Option Fun := fun f => match Nat.beq f 26 with | true => some TryF26 | false => none
def Tryp16 : Plans := fun id => none
def TryF16 : Fun := funX Tryz.prog TryG (fun _ => true) Trye16 Tryp16 lf Tryz.f16
theorem Tryc16 : CallOk Tryz.prog TryG 16 TryF16 := funX_ok Trymix (callsOk_cons Tryc26 callsOk_0) Tryz.func16 (by kernel_rfl)
def Trye28 : FuncId → Option Fun := fun f => none
def Tryp28 : Plans := fun id => none
def TryF28 : Fun := funX Tryz.prog TryG (fun _ => true) Trye28 Tryp28 lf Tryz.f28
theorem Tryc28 : CallOk Tryz.prog TryG 28 TryF28 := funX_ok Trymix callsOk_0 Tryz.func28 (by kernel_rfl)
def Trye29 : FuncId → Option Fun := fun f => none
def Tryp29 : Plans := fun id => none
def TryF29 : Fun := funX Tryz.prog TryG (fun _ => true) Trye29 Tryp29 lf Tryz.f29
theorem Tryc29 : CallOk Tryz.prog TryG 29 TryF29 := funX_ok Trymix callsOk_0 Tryz.func29 (by kernel_rfl)
def Trye30 : FuncId → Option Fun := fun f => none
def Tryp30 : Plans := fun id => none
def TryF30 : Fun := funX Tryz.prog TryG (fun _ => true) Trye30 Tryp30 lf Tryz.f30
theorem Tryc30 : CallOk Tryz.prog TryG 30 TryF30 := funX_ok Trymix callsOk_0 Tryz.func30 (by kernel_rfl)
def Trye31 : FuncId → Option Fun := fun f => none
def Tryp31 : Plans := fun id => none
def TryF31 : Fun := funX Tryz.prog TryG (fun _ => true) Trye31 Tryp31 lf Tryz.f31
theorem Tryc31 : CallOk Tryz.prog TryG 31 TryF31 := funX_ok Trymix callsOk_0 Tryz.func31 (by kernel_rfl)
def TryF47 : Fun := atomStore
theorem Tryc47 : CallOk Tryz.prog TryG 47 TryF47 := atomStore_ok Tryz.func47 (by kernel_rfl) (by kernel_rfl) (by kernel_rfl) (by kernel_rfl)
def Trye25 : FuncId → Option Fun := fun f => match Nat.beq f 47 with | true => some TryF47 | false => none
def Tryp25 : Plans := fun id => none
def TryF25 : Fun := funX Tryz.prog TryG (fun _ => true) Trye25 Tryp25 lf Tryz.f25
theorem Tryc25 : CallOk Tryz.prog TryG 25 TryF25 := funX_ok Trymix (callsOk_cons Tryc47 callsOk_0) Tryz.func25 (by kernel_rfl)
def Trye88 : FuncId → Option Fun := fun f => none
def Tryp88 : Plans := fun id => match Nat.beq id 1 with | true => some ([0, 1, 3, 7, 15, 0, 32, 96, 224, 480, 1023, 2047], [(0, .pure), (1, .pure), (2, .pure), (3, .read 0), (4, .heavy), (5, .pure), (6, .pure), (7, .pure), (8, .read 1), (9, .pure), (10, .heavy), (11, .pure)]) | false => none
def TryF88 : Fun := funX Tryz.prog TryG (fun _ => true) Trye88 Tryp88 lf Tryz.f88
theorem Tryc88 : CallOk Tryz.prog TryG 88 TryF88 := funX_ok Trymix callsOk_0 Tryz.func88 (by kernel_rfl)
def Trye157 : FuncId → Option Fun := fun f => none
def Tryp157 : Plans := fun id => none
def TryF157 : Fun := funX Tryz.prog TryG (fun _ => true) Trye157 Tryp157 lf Tryz.f157
theorem Tryc157 : CallOk Tryz.prog TryG 157 TryF157 := funX_ok Trymix callsOk_0 Tryz.func157 (by kernel_rfl)
def Trye159 : FuncId → Option Fun := fun f => none
def Tryp159 : Plans := fun id => none
def TryF159 : Fun := funX Tryz.prog TryG (fun _ => true) Trye159 Tryp159 lf Tryz.f159
theorem Tryc159 : CallOk Tryz.prog TryG 159 TryF159 := funX_ok Trymix callsOk_0 Tryz.func159 (by kernel_rfl)
def Trye161 : FuncId → Option Fun := fun f => none
def Tryp161 : Plans := fun id => match Nat.beq id 18 with | true => some ([0, 1, 3, 7, 15, 3, 35, 99, 255, 511], [(0, .pure), (1, .pure), (5, .pure), (6, .read 0), (7, .heavy), (2, .pure), (3, .pure), (4, .read 1), (8, .pure), (9, .pure)]) | false => match Nat.beq id 20 with | true => some ([0, 0, 2, 0, 8, 24, 0, 64, 192, 504, 0, 1024, 3072, 8184, 16376, 32760, 65528, 131071], [(3, .pure), (4, .read 0), (5, .heavy), (6, .pure), (7, .pure), (8, .read 1), (9, .heavy), (10, .pure), (11, .pure), (12, .read 2), (13, .heavy), (0, .pure), (1, .pure), (2, .pure), (14, .pure), (15, .pure), (16, .alloc), (17, .heavy)]) | false => match Nat.beq id 22 with | true => some ([0, 1, 3, 7, 0, 16, 48, 112, 240, 15, 1023], [(0, .pure), (1, .pure), (2, .pure), (3, .read 0), (4, .pure), (5, .pure), (6, .pure), (7, .read 0), (8, .pure), (9, .pure), (10, .pure)]) | false => none
def TryF161 : Fun := funX Tryz.prog TryG (fun _ => true) Trye161 Tryp161 lf Tryz.f161
theorem Tryc161 : CallOk Tryz.prog TryG 161 TryF161 := funX_ok Trymix callsOk_0 Tryz.func161 (by kernel_rfl)
def TryF193 : Fun := idxF
theorem Tryc193 : CallOk Tryz.prog TryG 193 TryF193 := idxF_ok Tryz.func193 (by kernel_rfl) (by kernel_rfl) (by kernel_rfl) (by kernel_rfl)
def Trye94 : FuncId → Option Fun := fun f => match Nat.beq f 193 with | true => some TryF193 | false => none
def Tryp94 : Plans := fun id => none
def TryF94 : Fun := funX Tryz.prog TryG (fun _ => true) Trye94 Tryp94 lf Tryz.f94
theorem Tryc94 : CallOk Tryz.prog TryG 94 TryF94 := funX_ok Trymix (callsOk_cons Tryc193 callsOk_0) Tryz.func94 (by kernel_rfl)
def Trye46 : FuncId → Option Fun := fun f => match Nat.beq f 94 with | true => some TryF94 | false => none
def Tryp46 : Plans := fun id => none
def TryF46 : Fun := funX Tryz.prog TryG (fun _ => true) Trye46 Tryp46 lf Tryz.f46
theorem Tryc46 : CallOk Tryz.prog TryG 46 TryF46 := funX_ok Trymix (callsOk_cons Tryc94 callsOk_0) Tryz.func46 (by kernel_rfl)
def Trye23 : FuncId → Option Fun := fun f => match Nat.beq f 46 with | true => some TryF46 | false => none
def Tryp23 : Plans := fun id => none
def TryF23 : Fun := funX Tryz.prog TryG (fun _ => true) Trye23 Tryp23 lf Tryz.f23
theorem Tryc23 : CallOk Tryz.prog TryG 23 TryF23 := funX_ok Trymix (callsOk_cons Tryc46 callsOk_0) Tryz.func23 (by kernel_rfl)
def Trye14 : FuncId → Option Fun := fun f => match Nat.beq f 23 with | true => some TryF23 | false => match Nat.beq f 24 with | true => some TryF24 | false => match Nat.beq f 25 with | true => some TryF25 | false => none
def Tryp14 : Plans := fun id => none
def TryF14 : Fun := funX Tryz.prog TryG (fun _ => true) Trye14 Tryp14 lf Tryz.f14
theorem Tryc14 : CallOk Tryz.prog TryG 14 TryF14 := funX_ok Trymix (callsOk_cons Tryc23 (callsOk_cons Tryc24 (callsOk_cons Tryc25 callsOk_0))) Tryz.func14 (by kernel_rfl)
def Trye6 : FuncId → Option Fun := fun f => match Nat.beq f 14 with | true => some TryF14 | false => match Nat.beq f 15 with | true => some TryF15 | false => none
def Tryp6 : Plans := fun id => none
def TryF6 : Fun := funX Tryz.prog TryG (fun _ => true) Trye6 Tryp6 lf Tryz.f6
theorem Tryc6 : CallOk Tryz.prog TryG 6 TryF6 := funX_ok Trymix (callsOk_cons Tryc14 (callsOk_cons Tryc15 callsOk_0)) Tryz.func6 (by kernel_rfl)
def TryF194 : Fun := atomLoad .u32
theorem Tryc194 : CallOk Tryz.prog TryG 194 TryF194 := atomLoad_ok Tryz.func194 (by kernel_rfl) (by kernel_rfl) (by kernel_rfl) .u32 (by kernel_rfl)
def Trye95 : FuncId → Option Fun := fun f => match Nat.beq f 194 with | true => some TryF194 | false => none
def Tryp95 : Plans := fun id => none
def TryF95 : Fun := funX Tryz.prog TryG (fun _ => true) Trye95 Tryp95 lf Tryz.f95
theorem Tryc95 : CallOk Tryz.prog TryG 95 TryF95 := funX_ok Trymix (callsOk_cons Tryc194 callsOk_0) Tryz.func95 (by kernel_rfl)
def Trye49 : FuncId → Option Fun := fun f => none
def Tryp49 : Plans := fun id => match Nat.beq id 0 with | true => some ([0, 0, 3, 7, 15], [(0, .read 0), (1, .alloc), (2, .pure), (3, .pure), (4, .heavy)]) | false => none
def TryF49 : Fun := funX Tryz.prog TryG (fun _ => true) Trye49 Tryp49 lf Tryz.f49
theorem Tryc49 : CallOk Tryz.prog TryG 49 TryF49 := funX_ok Trymix callsOk_0 Tryz.func49 (by kernel_rfl)
def Trye156 : FuncId → Option Fun := fun f => none
def Tryp156 : Plans := fun id => none
def TryF156 : Fun := funX Tryz.prog TryG (fun _ => true) Trye156 Tryp156 lf Tryz.f156
theorem Tryc156 : CallOk Tryz.prog TryG 156 TryF156 := funX_ok Trymix callsOk_0 Tryz.func156 (by kernel_rfl)
def Trye51 : FuncId → Option Fun := fun f => none
def Tryp51 : Plans := fun id => none
def TryF51 : Fun := funX Tryz.prog TryG (fun _ => true) Trye51 Tryp51 lf Tryz.f51
theorem Tryc51 : CallOk Tryz.prog TryG 51 TryF51 := funX_ok Trymix callsOk_0 Tryz.func51 (by kernel_rfl)
def TryF364 : Fun := atomStore
theorem Tryc364 : CallOk Tryz.prog TryG 364 TryF364 := atomStore_ok Tryz.func364 (by kernel_rfl) (by kernel_rfl) (by kernel_rfl) (by kernel_rfl)
def Trye365 : FuncId → Option Fun := fun f => none
def Tryp365 : Plans := fun id => none
def TryF365 : Fun := funX Tryz.prog TryG (fun _ => true) Trye365 Tryp365 lf Tryz.f365
theorem Tryc365 : CallOk Tryz.prog TryG 365 TryF365 := funX_ok Trymix callsOk_0 Tryz.func365 (by kernel_rfl)
def Trye197 : FuncId → Option Fun := fun f => match Nat.beq f 364 with | true => some TryF364 | false => match Nat.beq f 365 with | true => some TryF365 | false => none
def Tryp197 : Plans := fun id => match Nat.beq id 0 with | true => some ([0, 1, 3, 0, 8, 31], [(3, .pure), (4, .heavy), (0, .pure), (1, .pure), (2, .pure), (5, .heavy)]) | false => none
def TryF197 : Fun := funX Tryz.prog TryG (fun _ => true) Trye197 Tryp197 lf Tryz.f197
theorem Tryb197 : DCallOk Tryz.prog TryG 197 TryF197 := (funX_body Trymix (callsOk_cons Tryc364 (callsOk_cons Tryc365 callsOk_0)) Tryz.func197 (by kernel_rfl)).deferred
def Trye367 : FuncId → Option Fun := fun f => none
def Tryp367 : Plans := fun id => none
def TryF367 : Fun := funX Tryz.prog TryG (fun _ => true) Trye367 Tryp367 lf Tryz.f367
theorem Tryc367 : CallOk Tryz.prog TryG 367 TryF367 := funX_ok Trymix callsOk_0 Tryz.func367 (by kernel_rfl)
def Trye200 : FuncId → Option Fun := fun f => match Nat.beq f 367 with | true => some TryF367 | false => none
def Tryp200 : Plans := fun id => none
def TryF200 : Fun := funX Tryz.prog TryG (fun _ => true) Trye200 Tryp200 lf Tryz.f200
theorem Tryc200 : CallOk Tryz.prog TryG 200 TryF200 := funX_ok Trymix (callsOk_cons Tryc367 callsOk_0) Tryz.func200 (by kernel_rfl)
def Trye452 : FuncId → Option Fun := fun f => none
def Tryp452 : Plans := fun id => match Nat.beq id 1 with | true => some ([0, 1, 3, 7, 0, 16, 48, 112, 255, 511, 0, 1024, 3072, 7168, 16383, 32767], [(0, .pure), (1, .pure), (2, .pure), (3, .read 0), (4, .pure), (5, .pure), (6, .pure), (7, .read 0), (8, .pure), (9, .read 0), (10, .pure), (11, .pure), (12, .pure), (13, .read 0), (14, .pure), (15, .pure)]) | false => none
def TryF452 : Fun := funX Tryz.prog TryG (fun _ => true) Trye452 Tryp452 lf Tryz.f452
theorem Tryc452 : CallOk Tryz.prog TryG 452 TryF452 := funX_ok Trymix callsOk_0 Tryz.func452 (by kernel_rfl)
def Trye554 : FuncId → Option Fun := fun f => match Nat.beq f 452 with | true => some TryF452 | false => none
def Tryp554 : Plans := fun id => none
def TryF554 : Fun := funX Tryz.prog TryG (fun _ => true) Trye554 Tryp554 lf Tryz.f554
theorem Tryc554 : CallOk Tryz.prog TryG 554 TryF554 := funX_ok Trymix (callsOk_cons Tryc452 callsOk_0) Tryz.func554 (by kernel_rfl)
def Trye658 : FuncId → Option Fun := fun f => match Nat.beq f 452 with | true => some TryF452 | false => none
def Tryp658 : Plans := fun id => match Nat.beq id 1 with | true => some ([0, 1, 3, 7, 15, 31, 63, 127, 15, 271, 783, 1807, 3855, 8191, 16383, 32767], [(0, .pure), (1, .heavy), (2, .pure), (3, .pure), (4, .pure), (5, .pure), (6, .pure), (7, .read 0), (8, .pure), (9, .pure), (10, .pure), (11, .read 0), (12, .pure), (13, .pure), (14, .pure), (15, .pure)]) | false => none
def TryF658 : Fun := funX Tryz.prog TryG (fun _ => true) Trye658 Tryp658 lf Tryz.f658
theorem Tryc658 : CallOk Tryz.prog TryG 658 TryF658 := funX_ok Trymix (callsOk_cons Tryc452 callsOk_0) Tryz.func658 (by kernel_rfl)
def Trye553 : FuncId → Option Fun := fun f => match Nat.beq f 46 with | true => some TryF46 | false => match Nat.beq f 452 with | true => some TryF452 | false => match Nat.beq f 554 with | true => some TryF554 | false => match Nat.beq f 658 with | true => some TryF658 | false => none
def Tryp553 : Plans := fun id => match Nat.beq id 2 with | true => some ([0, 1, 3, 7, 0, 16, 48, 112, 255, 511, 1023, 0, 4095], [(0, .pure), (1, .pure), (2, .pure), (3, .read 0), (4, .pure), (5, .pure), (6, .pure), (7, .read 0), (8, .pure), (9, .read 0), (10, .pure), (11, .alloc), (12, .heavy)]) | false => match Nat.beq id 17 with | true => some ([0, 0, 2, 6, 14, 30, 31, 127], [(1, .pure), (2, .pure), (3, .pure), (4, .heavy), (0, .read 1), (6, .heavy), (5, .pure), (7, .pure)]) | false => none
def TryF553 : Fun := funX Tryz.prog TryG (fun _ => true) Trye553 Tryp553 lf Tryz.f553
theorem Tryc553 : CallOk Tryz.prog TryG 553 TryF553 := funX_ok Trymix (callsOk_cons Tryc46 (callsOk_cons Tryc452 (callsOk_cons Tryc554 (callsOk_cons Tryc658 callsOk_0)))) Tryz.func553 (by kernel_rfl)
def Trye451 : FuncId → Option Fun := fun f => match Nat.beq f 553 with | true => some TryF553 | false => match Nat.beq f 554 with | true => some TryF554 | false => none
def Tryp451 : Plans := fun id => none
def TryF451 : Fun := funX Tryz.prog TryG (fun _ => true) Trye451 Tryp451 lf Tryz.f451
theorem Tryc451 : CallOk Tryz.prog TryG 451 TryF451 := funX_ok Trymix (callsOk_cons Tryc553 (callsOk_cons Tryc554 callsOk_0)) Tryz.func451 (by kernel_rfl)
def Trye293 : FuncId → Option Fun := fun f => match Nat.beq f 451 with | true => some TryF451 | false => match Nat.beq f 452 with | true => some TryF452 | false => none
def Tryp293 : Plans := fun id => match Nat.beq id 10 with | true => some ([0, 0, 2, 6, 14, 30, 62, 126, 254, 510, 1022, 2046, 254, 4350, 16382, 32766, 255, 131071], [(1, .pure), (2, .pure), (3, .pure), (4, .heavy), (0, .pure), (5, .pure), (6, .pure), (7, .pure), (8, .pure), (9, .pure), (10, .pure), (11, .read 0), (12, .pure), (13, .pure), (14, .pure), (15, .pure), (16, .pure), (17, .pure)]) | false => none
def TryF293 : Fun := funX Tryz.prog TryG (fun _ => true) Trye293 Tryp293 lf Tryz.f293
theorem Tryc293 : CallOk Tryz.prog TryG 293 TryF293 := funX_ok Trymix (callsOk_cons Tryc451 (callsOk_cons Tryc452 callsOk_0)) Tryz.func293 (by kernel_rfl)
def TryF453 : Fun := sameF
theorem Tryc453 : CallOk Tryz.prog TryG 453 TryF453 := sameF_ok Tryz.func453 (by kernel_rfl) (by kernel_rfl) (by kernel_rfl) (by kernel_rfl)
def Trye294 : FuncId → Option Fun := fun f => match Nat.beq f 453 with | true => some TryF453 | false => none
def Tryp294 : Plans := fun id => none
def TryF294 : Fun := funX Tryz.prog TryG (fun _ => true) Trye294 Tryp294 lf Tryz.f294
theorem Tryc294 : CallOk Tryz.prog TryG 294 TryF294 := funX_ok Trymix (callsOk_cons Tryc453 callsOk_0) Tryz.func294 (by kernel_rfl)
def Trye160 : FuncId → Option Fun := fun f => match Nat.beq f 294 with | true => some TryF294 | false => none
def Tryp160 : Plans := fun id => none
def TryF160 : Fun := funX Tryz.prog TryG (fun _ => true) Trye160 Tryp160 lf Tryz.f160
theorem Tryc160 : CallOk Tryz.prog TryG 160 TryF160 := funX_ok Trymix (callsOk_cons Tryc294 callsOk_0) Tryz.func160 (by kernel_rfl)
def TryF488 : Fun := markF0
theorem Tryc488 : CallOk Tryz.prog TryG 488 TryF488 := markF0_ok Tryz.func488 (by kernel_rfl) (by kernel_rfl) (by kernel_rfl) .disable (by kernel_rfl)
def TryF489 : Fun := atomCas .i32
theorem Tryc489 : CallOk Tryz.prog TryG 489 TryF489 := atomCas_ok Tryz.func489 (by kernel_rfl) (by kernel_rfl) (by kernel_rfl) .i32 (by kernel_rfl)
def TryF490 : Fun := markF0
theorem Tryc490 : CallOk Tryz.prog TryG 490 TryF490 := markF0_ok Tryz.func490 (by kernel_rfl) (by kernel_rfl) (by kernel_rfl) .enable (by kernel_rfl)
def TryF491 : Fun := markF1
theorem Tryc491 : CallOk Tryz.prog TryG 491 TryF491 := markF1_ok Tryz.func491 (by kernel_rfl) (by kernel_rfl) (by kernel_rfl) .acquire (by kernel_rfl)
def Trye362 : FuncId → Option Fun := fun f => match Nat.beq f 488 with | true => some TryF488 | false => match Nat.beq f 489 with | true => some TryF489 | false => match Nat.beq f 490 with | true => some TryF490 | false => match Nat.beq f 491 with | true => some TryF491 | false => none
def Tryp362 : Plans := fun id => none
def TryF362 : Fun := funX Tryz.prog TryG (fun _ => true) Trye362 Tryp362 lf Tryz.f362
theorem Tryc362 : CallOk Tryz.prog TryG 362 TryF362 := funX_ok Trymix (callsOk_cons Tryc488 (callsOk_cons Tryc489 (callsOk_cons Tryc490 (callsOk_cons Tryc491 callsOk_0)))) Tryz.func362 (by kernel_rfl)
def Trye195 : FuncId → Option Fun := fun f => match Nat.beq f 362 with | true => some TryF362 | false => none
def Tryp195 : Plans := fun id => none
def TryF195 : Fun := funX Tryz.prog TryG (fun _ => true) Trye195 Tryp195 lf Tryz.f195
theorem Tryc195 : CallOk Tryz.prog TryG 195 TryF195 := funX_ok Trymix (callsOk_cons Tryc362 callsOk_0) Tryz.func195 (by kernel_rfl)
def TryF493 : Fun := markF1
theorem Tryc493 : CallOk Tryz.prog TryG 493 TryF493 := markF1_ok Tryz.func493 (by kernel_rfl) (by kernel_rfl) (by kernel_rfl) .releaseMerge (by kernel_rfl)
def TryF494 : Fun := atomAdd .i32
theorem Tryc494 : CallOk Tryz.prog TryG 494 TryF494 := atomAdd_ok Tryz.func494 (by kernel_rfl) (by kernel_rfl) (by kernel_rfl) .i32 (by kernel_rfl)
def Trye363 : FuncId → Option Fun := fun f => match Nat.beq f 488 with | true => some TryF488 | false => match Nat.beq f 490 with | true => some TryF490 | false => match Nat.beq f 493 with | true => some TryF493 | false => match Nat.beq f 494 with | true => some TryF494 | false => none
def Tryp363 : Plans := fun id => none
def TryF363 : Fun := funX Tryz.prog TryG (fun _ => true) Trye363 Tryp363 lf Tryz.f363
theorem Tryc363 : CallOk Tryz.prog TryG 363 TryF363 := funX_ok Trymix (callsOk_cons Tryc488 (callsOk_cons Tryc490 (callsOk_cons Tryc493 (callsOk_cons Tryc494 callsOk_0)))) Tryz.func363 (by kernel_rfl)
def Trye196 : FuncId → Option Fun := fun f => match Nat.beq f 363 with | true => some TryF363 | false => none
def Tryp196 : Plans := fun id => none
def TryF196 : Fun := funX Tryz.prog TryG (fun _ => true) Trye196 Tryp196 lf Tryz.f196
theorem Tryb196 : DCallOk Tryz.prog TryG 196 TryF196 := (funX_body Trymix (callsOk_cons Tryc363 callsOk_0) Tryz.func196 (by kernel_rfl)).deferred
def Trye96 : FuncId → Option Fun := fun f => match Nat.beq f 49 with | true => some TryF49 | false => match Nat.beq f 95 with | true => some TryF95 | false => match Nat.beq f 195 with | true => some TryF195 | false => none
def Tryp96 : Plans := fun id => none
def Tryd96 : FuncId → Option Fun := fun f => match Nat.beq f 196 with | true => some TryF196 | false => match Nat.beq f 197 with | true => some TryF197 | false => none
def TryF96 : Fun := funXT Tryz.prog TryG (fun _ => true) Trye96 Tryd96 Tryp96 lf Tryz.f96
theorem Tryc96 : CallOk Tryz.prog TryG 96 TryF96 := funXT_ok Trymix (callsOk_cons Tryc49 (callsOk_cons Tryc95 (callsOk_cons Tryc195 callsOk_0))) (dcallsOk_cons Tryb196 (dcallsOk_cons Tryb197 dcallsOk_0)) Tryz.func96 (by kernel_rfl)
def Trye48 : FuncId → Option Fun := fun f => match Nat.beq f 95 with | true => some TryF95 | false => match Nat.beq f 96 with | true => some TryF96 | false => none
def Tryp48 : Plans := fun id => none
def TryF48 : Fun := funX Tryz.prog TryG (fun _ => true) Trye48 Tryp48 lf Tryz.f48
theorem Tryc48 : CallOk Tryz.prog TryG 48 TryF48 := funX_ok Trymix (callsOk_cons Tryc95 (callsOk_cons Tryc96 callsOk_0)) Tryz.func48 (by kernel_rfl)
def Trye27 : FuncId → Option Fun := fun f => match Nat.beq f 48 with | true => some TryF48 | false => none
def Tryp27 : Plans := fun id => none
def TryF27 : Fun := funX Tryz.prog TryG (fun _ => true) Trye27 Tryp27 lf Tryz.f27
theorem Tryc27 : CallOk Tryz.prog TryG 27 TryF27 := funX_ok Trymix (callsOk_cons Tryc48 callsOk_0) Tryz.func27 (by kernel_rfl)
def TryF504 : Fun := noZero 5
theorem Tryc504 : CallOk Tryz.prog TryG 504 TryF504 := noZero_ok (ps := Tryz.f504.params) Tryz.func504 (by kernel_rfl) (by kernel_rfl) (by kernel_rfl) Tryz.underlying34 (by kernel_rfl)
def Trye381 : FuncId → Option Fun := fun f => match Nat.beq f 504 with | true => some TryF504 | false => none
def Tryp381 : Plans := fun id => match Nat.beq id 0 with | true => some ([0, 1, 3, 7, 15, 31, 0, 127, 255, 0, 512, 1536, 3584, 7680, 16383, 32767], [(0, .pure), (1, .pure), (2, .pure), (3, .read 0), (4, .heavy), (5, .pure), (6, .pure), (7, .pure), (8, .heavy), (9, .pure), (10, .pure), (11, .pure), (12, .read 2), (13, .pure), (14, .pure), (15, .pure)]) | false => none
def TryF381 : Fun := funX Tryz.prog TryG (fun _ => true) Trye381 Tryp381 lf Tryz.f381
theorem Tryc381 : CallOk Tryz.prog TryG 381 TryF381 := funX_ok Trymix (callsOk_cons Tryc504 callsOk_0) Tryz.func381 (by kernel_rfl)
def Trye224 : FuncId → Option Fun := fun f => match Nat.beq f 294 with | true => some TryF294 | false => match Nat.beq f 381 with | true => some TryF381 | false => none
def Tryp224 : Plans := fun id => match Nat.beq id 3 with | true => some ([0, 1, 3, 7, 15, 0, 32, 96, 224, 480, 1023, 0, 4095], [(0, .pure), (1, .pure), (2, .pure), (3, .read 0), (4, .heavy), (5, .pure), (6, .pure), (7, .pure), (8, .read 1), (9, .pure), (10, .pure), (11, .pure), (12, .pure)]) | false => none
def TryF224 : Fun := funX Tryz.prog TryG (fun _ => true) Trye224 Tryp224 lf Tryz.f224
theorem Tryc224 : CallOk Tryz.prog TryG 224 TryF224 := funX_ok Trymix (callsOk_cons Tryc294 (callsOk_cons Tryc381 callsOk_0)) Tryz.func224 (by kernel_rfl)
def Trye117 : FuncId → Option Fun := fun f => match Nat.beq f 88 with | true => some TryF88 | false => match Nat.beq f 160 with | true => some TryF160 | false => match Nat.beq f 224 with | true => some TryF224 | false => none
def Tryp117 : Plans := fun id => none
def TryF117 : Fun := funX Tryz.prog TryG (fun _ => true) Trye117 Tryp117 lf Tryz.f117
theorem Tryc117 : CallOk Tryz.prog TryG 117 TryF117 := funX_ok Trymix (callsOk_cons Tryc88 (callsOk_cons Tryc160 (callsOk_cons Tryc224 callsOk_0))) Tryz.func117 (by kernel_rfl)
def Trye98 : FuncId → Option Fun := fun f => match Nat.beq f 117 with | true => some TryF117 | false => match Nat.beq f 160 with | true => some TryF160 | false => none
def Tryp98 : Plans := fun id => match Nat.beq id 0 with | true => some ([0, 1, 3, 0, 8, 31], [(3, .pure), (4, .heavy), (0, .pure), (1, .pure), (2, .pure), (5, .heavy)]) | false => none
def TryF98 : Fun := funX Tryz.prog TryG (fun _ => true) Trye98 Tryp98 lf Tryz.f98
theorem Tryc98 : CallOk Tryz.prog TryG 98 TryF98 := funX_ok Trymix (callsOk_cons Tryc117 (callsOk_cons Tryc160 callsOk_0)) Tryz.func98 (by kernel_rfl)
def Trye52 : FuncId → Option Fun := fun f => match Nat.beq f 98 with | true => some TryF98 | false => none
def Tryp52 : Plans := fun id => none
def TryF52 : Fun := funX Tryz.prog TryG (fun _ => true) Trye52 Tryp52 lf Tryz.f52
theorem Tryc52 : CallOk Tryz.prog TryG 52 TryF52 := funX_ok Trymix (callsOk_cons Tryc98 callsOk_0) Tryz.func52 (by kernel_rfl)
def Trye158 : FuncId → Option Fun := fun f => match Nat.beq f 51 with | true => some TryF51 | false => match Nat.beq f 52 with | true => some TryF52 | false => none
def Tryp158 : Plans := fun id => none
def TryF158 : Fun := funX Tryz.prog TryG (fun _ => true) Trye158 Tryp158 lf Tryz.f158
theorem Tryc158 : CallOk Tryz.prog TryG 158 TryF158 := funX_ok Trymix (callsOk_cons Tryc51 (callsOk_cons Tryc52 callsOk_0)) Tryz.func158 (by kernel_rfl)
def Trye70 : FuncId → Option Fun := fun f => match Nat.beq f 16 with | true => some TryF16 | false => match Nat.beq f 88 with | true => some TryF88 | false => match Nat.beq f 98 with | true => some TryF98 | false => match Nat.beq f 157 with | true => some TryF157 | false => match Nat.beq f 158 with | true => some TryF158 | false => match Nat.beq f 159 with | true => some TryF159 | false => match Nat.beq f 160 with | true => some TryF160 | false => match Nat.beq f 161 with | true => some TryF161 | false => none
def Tryp70 : Plans := fun id => match Nat.beq id 16 with | true => some ([0, 1, 3, 0, 8, 24, 56, 0, 0, 256, 768, 2040, 4095], [(3, .pure), (4, .pure), (5, .pure), (6, .read 0), (7, .pure), (8, .pure), (9, .read 0), (10, .pure), (11, .heavy), (0, .pure), (1, .pure), (2, .pure), (12, .heavy)]) | false => match Nat.beq id 20 with | true => some ([0, 1, 3, 7, 0, 16, 48, 15, 255], [(0, .pure), (1, .pure), (2, .pure), (3, .heavy), (4, .pure), (5, .read 1), (6, .pure), (7, .pure), (8, .pure)]) | false => none
def TryF70 : Fun := funX Tryz.prog TryG (fun _ => true) Trye70 Tryp70 lf Tryz.f70
theorem Tryc70 : CallOk Tryz.prog TryG 70 TryF70 := funX_ok Trymix (callsOk_cons Tryc16 (callsOk_cons Tryc88 (callsOk_cons Tryc98 (callsOk_cons Tryc157 (callsOk_cons Tryc158 (callsOk_cons Tryc159 (callsOk_cons Tryc160 (callsOk_cons Tryc161 callsOk_0)))))))) Tryz.func70 (by kernel_rfl)
def Trye541 : FuncId → Option Fun := fun f => none
def Tryp541 : Plans := fun id => none
def TryF541 : Fun := funX Tryz.prog TryG (fun _ => true) Trye541 Tryp541 lf Tryz.f541
theorem Tryc541 : CallOk Tryz.prog TryG 541 TryF541 := funX_ok Trymix callsOk_0 Tryz.func541 (by kernel_rfl)
def Trye445 : FuncId → Option Fun := fun f => match Nat.beq f 541 with | true => some TryF541 | false => none
def Tryp445 : Plans := fun id => none
def TryF445 : Fun := funX Tryz.prog TryG (fun _ => true) Trye445 Tryp445 lf Tryz.f445
theorem Tryc445 : CallOk Tryz.prog TryG 445 TryF445 := funX_ok Trymix (callsOk_cons Tryc541 callsOk_0) Tryz.func445 (by kernel_rfl)
def Trye284 : FuncId → Option Fun := fun f => match Nat.beq f 445 with | true => some TryF445 | false => none
def Tryp284 : Plans := fun id => none
def TryF284 : Fun := funX Tryz.prog TryG (fun _ => true) Trye284 Tryp284 lf Tryz.f284
theorem Tryc284 : CallOk Tryz.prog TryG 284 TryF284 := funX_ok Trymix (callsOk_cons Tryc445 callsOk_0) Tryz.func284 (by kernel_rfl)
def Trye292 : FuncId → Option Fun := fun f => match Nat.beq f 200 with | true => some TryF200 | false => match Nat.beq f 284 with | true => some TryF284 | false => none
def Tryp292 : Plans := fun id => none
def TryF292 : Fun := funX Tryz.prog TryG (fun _ => true) Trye292 Tryp292 lf Tryz.f292
theorem Tryc292 : CallOk Tryz.prog TryG 292 TryF292 := funX_ok Trymix (callsOk_cons Tryc200 (callsOk_cons Tryc284 callsOk_0)) Tryz.func292 (by kernel_rfl)
def Trye450 : FuncId → Option Fun := fun f => match Nat.beq f 541 with | true => some TryF541 | false => none
def Tryp450 : Plans := fun id => none
def TryF450 : Fun := funX Tryz.prog TryG (fun _ => true) Trye450 Tryp450 lf Tryz.f450
theorem Tryc450 : CallOk Tryz.prog TryG 450 TryF450 := funX_ok Trymix (callsOk_cons Tryc541 callsOk_0) Tryz.func450 (by kernel_rfl)
def Trye291 : FuncId → Option Fun := fun f => match Nat.beq f 450 with | true => some TryF450 | false => none
def Tryp291 : Plans := fun id => none
def TryF291 : Fun := funX Tryz.prog TryG (fun _ => true) Trye291 Tryp291 lf Tryz.f291
theorem Tryc291 : CallOk Tryz.prog TryG 291 TryF291 := funX_ok Trymix (callsOk_cons Tryc450 callsOk_0) Tryz.func291 (by kernel_rfl)
def Trye155 : FuncId → Option Fun := fun f => match Nat.beq f 156 with | true => some TryF156 | false => match Nat.beq f 291 with | true => some TryF291 | false => match Nat.beq f 292 with | true => some TryF292 | false => match Nat.beq f 293 with | true => some TryF293 | false => none
def Tryp155 : Plans := fun id => match Nat.beq id 5 with | true => some ([0, 1, 3, 7, 0, 16, 63, 0, 128, 384, 896, 2047, 4095, 8191, 8191, 16383, 65535], [(0, .pure), (1, .pure), (2, .pure), (3, .read 0), (4, .pure), (5, .alloc), (6, .heavy), (7, .pure), (8, .pure), (9, .pure), (10, .read 1), (11, .heavy), (12, .pure), (13, .pure), (14, .pure), (15, .pure), (16, .pure)]) | false => match Nat.beq id 10 with | true => some ([0, 0, 2, 6, 14, 0, 32, 96, 224, 510, 1023], [(0, .pure), (1, .pure), (2, .pure), (3, .pure), (4, .read 0), (5, .pure), (6, .pure), (7, .pure), (8, .read 0), (9, .pure), (10, .pure)]) | false => none
def TryF155 : Fun := funX Tryz.prog TryG (fun _ => true) Trye155 Tryp155 lf Tryz.f155
theorem Tryc155 : CallOk Tryz.prog TryG 155 TryF155 := funX_ok Trymix (callsOk_cons Tryc156 (callsOk_cons Tryc291 (callsOk_cons Tryc292 (callsOk_cons Tryc293 callsOk_0)))) Tryz.func155 (by kernel_rfl)
def Trye69 : FuncId → Option Fun := fun f => match Nat.beq f 155 with | true => some TryF155 | false => none
def Tryp69 : Plans := fun id => match Nat.beq id 10 with | true => some ([0, 1, 3, 7, 0, 16, 48, 112, 240, 511, 1023], [(0, .pure), (1, .pure), (2, .pure), (3, .read 0), (4, .pure), (5, .pure), (6, .pure), (7, .read 0), (8, .pure), (9, .pure), (10, .pure)]) | false => none
def TryF69 : Fun := funX Tryz.prog TryG (fun _ => true) Trye69 Tryp69 lf Tryz.f69
theorem Tryc69 : CallOk Tryz.prog TryG 69 TryF69 := funX_ok Trymix (callsOk_cons Tryc155 callsOk_0) Tryz.func69 (by kernel_rfl)
def Trye32 : FuncId → Option Fun := fun f => match Nat.beq f 69 with | true => some TryF69 | false => match Nat.beq f 70 with | true => some TryF70 | false => none
def Tryp32 : Plans := fun id => match Nat.beq id 5 with | true => some ([0, 1, 3, 7, 15, 31, 0, 64, 192, 448, 0, 1024, 3072, 7168, 0, 32767, 65535, 131071, 131071, 262143, 1048575], [(0, .pure), (1, .pure), (2, .read 0), (3, .pure), (4, .pure), (5, .read 0), (6, .pure), (7, .pure), (8, .pure), (9, .read 0), (10, .pure), (11, .pure), (12, .pure), (13, .read 0), (14, .read 0), (15, .heavy), (16, .pure), (17, .pure), (18, .pure), (19, .pure), (20, .pure)]) | false => none
def TryF32 : Fun := funX Tryz.prog TryG (fun _ => true) Trye32 Tryp32 lf Tryz.f32
theorem Tryc32 : CallOk Tryz.prog TryG 32 TryF32 := funX_ok Trymix (callsOk_cons Tryc69 (callsOk_cons Tryc70 callsOk_0)) Tryz.func32 (by kernel_rfl)
def Trye18 : FuncId → Option Fun := fun f => match Nat.beq f 27 with | true => some TryF27 | false => match Nat.beq f 28 with | true => some TryF28 | false => match Nat.beq f 29 with | true => some TryF29 | false => match Nat.beq f 30 with | true => some TryF30 | false => match Nat.beq f 31 with | true => some TryF31 | false => match Nat.beq f 32 with | true => some TryF32 | false => none
def Tryp18 : Plans := fun id => match Nat.beq id 4 with | true => some ([0, 0, 0, 4, 12, 28, 62, 126, 254, 510, 1022, 2047, 4095], [(1, .heavy), (2, .pure), (3, .pure), (4, .pure), (5, .read 1), (6, .heavy), (7, .heavy), (8, .heavy), (0, .pure), (9, .pure), (10, .alloc), (11, .pure), (12, .heavy)]) | false => none
def TryF18 : Fun := funX Tryz.prog TryG (fun _ => true) Trye18 Tryp18 lf Tryz.f18
theorem Tryc18 : CallOk Tryz.prog TryG 18 TryF18 := funX_ok Trymix (callsOk_cons Tryc27 (callsOk_cons Tryc28 (callsOk_cons Tryc29 (callsOk_cons Tryc30 (callsOk_cons Tryc31 (callsOk_cons Tryc32 callsOk_0)))))) Tryz.func18 (by kernel_rfl)
def Trye9 : FuncId → Option Fun := fun f => match Nat.beq f 16 with | true => some TryF16 | false => match Nat.beq f 17 with | true => some TryF17 | false => match Nat.beq f 18 with | true => some TryF18 | false => none
def Tryp9 : Plans := fun id => match Nat.beq id 8 with | true => some ([0, 1, 0, 0, 12, 31, 63], [(2, .pure), (3, .read 0), (4, .heavy), (0, .pure), (1, .read 1), (5, .heavy), (6, .pure)]) | false => match Nat.beq id 10 with | true => some ([0, 1, 0, 4, 12, 28, 60, 127], [(0, .pure), (1, .read 0), (2, .pure), (3, .pure), (4, .pure), (5, .read 0), (6, .pure), (7, .pure)]) | false => match Nat.beq id 12 with | true => some ([0, 1, 3, 7, 0, 16, 48, 127, 255, 511, 1023], [(0, .pure), (1, .pure), (2, .pure), (3, .read 0), (4, .pure), (5, .read 0), (6, .pure), (7, .pure), (8, .pure), (9, .pure), (10, .heavy)]) | false => match Nat.beq id 14 with | true => some ([0, 1, 3, 7, 0, 16, 48, 112, 0, 256, 768, 1792, 0, 4096, 16383, 32767, 65535], [(0, .pure), (1, .pure), (2, .pure), (3, .read 0), (4, .pure), (5, .pure), (6, .pure), (7, .read 0), (8, .pure), (9, .pure), (10, .pure), (11, .read 0), (12, .pure), (13, .read 0), (14, .heavy), (15, .heavy), (16, .pure)]) | false => none
def TryF9 : Fun := funX Tryz.prog TryG (fun _ => true) Trye9 Tryp9 lf Tryz.f9
theorem Tryc9 : CallOk Tryz.prog TryG 9 TryF9 := funX_ok Trymix (callsOk_cons Tryc16 (callsOk_cons Tryc17 (callsOk_cons Tryc18 callsOk_0))) Tryz.func9 (by kernel_rfl)
def Trye5 : FuncId → Option Fun := fun f => match Nat.beq f 6 with | true => some TryF6 | false => match Nat.beq f 7 with | true => some TryF7 | false => match Nat.beq f 8 with | true => some TryF8 | false => match Nat.beq f 9 with | true => some TryF9 | false => none
def Tryp5 : Plans := fun id => none
def TryF5 : Fun := funX Tryz.prog TryG (fun _ => true) Trye5 Tryp5 lf Tryz.f5
theorem Tryc5 : CallOk Tryz.prog TryG 5 TryF5 := funX_ok Trymix (callsOk_cons Tryc6 (callsOk_cons Tryc7 (callsOk_cons Tryc8 (callsOk_cons Tryc9 callsOk_0)))) Tryz.func5 (by kernel_rfl)
end Go.Proofs.ImE
