/- Part of the value machine, or of a walk by it: lemmas that the claim's last text uses. No conditions. -/
import Derived.Test.YtnlbcbjgejpanaaGreatDoorChecked
import Derived.KernelRfl
import Derived.Test.YtnlbcbjgejpanaaGreatDoorStVmE
import Derived.Test.YtnlbcbjgejpanaaGreatDoorStVmH
import Derived.Test.YtnlbcbjgejpanaaGreatDoorStVmJ
import Derived.Test.YtnlbcbjgejpanaaGreatDoorStVmK
import Derived.Test.YtnlbcbjgejpanaaGreatDoorStVmM
set_option linter.unusedVariables false
set_option linter.unusedSimpArgs false
set_option linter.unnecessarySimpa false
noncomputable section
namespace Go.Proofs.ImT
open Go Go.Proofs Go.Vm
set_option linter.unusedVariables false
set_option linter.unusedSimpArgs false
set_option maxRecDepth 100000
set_option maxHeartbeats 4000000
theorem Trymix : Tryz.prog.follows .mixedOrders = true := Tryz.checked.mixed
def TryG : Nat := 7
def Tryp45 : Plans := fun id => match Nat.beq id 3 with | true => some ([0, 1, 3, 0, 8, 24, 56, 120, 248, 511, 1023], [(0, .pure), (1, .pure), (2, .heavy), (3, .pure), (4, .pure), (5, .pure), (6, .pure), (7, .alloc), (8, .own 7), (9, .pure), (10, .pure)]) | false => none
def Trys45 (e : FuncId → Option Fun) : FuncId → Option Fun := fun f => match Nat.beq f 45 with | true => some (funX Tryz.prog TryG (fun _ => true) (fun f => e f) Tryp45 lf Tryz.f45) | false => none
theorem Tryso45 (e : FuncId → Option Fun) (he : ∀ f F, e f = some F → CallOk Tryz.prog TryG f F) : ∀ f F, Trys45 e f = some F → CallOk Tryz.prog TryG f F := callsOk_cons (funX_ok Trymix he Tryz.func45 (by kernel_rfl)) (callsOk_0)
def TryF45 : Fun := pickF (levels (fun _ => none) Trys45 40) 45
theorem Tryc45 : CallOk Tryz.prog TryG 45 TryF45 := pickF_ok (levels_ok callsOk_0 Tryso45 40) 45
def Trye22 : FuncId → Option Fun := fun f => match Nat.beq f 45 with | true => some TryF45 | false => none
def Tryp22 : Plans := fun id => none
def TryF22 : Fun := funX Tryz.prog TryG (fun _ => true) Trye22 Tryp22 lf Tryz.f22
theorem Tryc22 : CallOk Tryz.prog TryG 22 TryF22 := funX_ok Trymix (callsOk_cons Tryc45 callsOk_0) Tryz.func22 (by kernel_rfl)
def Trye7 : FuncId → Option Fun := fun f => none
def Tryp7 : Plans := fun id => none
def TryF7 : Fun := funX Tryz.prog TryG (fun _ => true) Trye7 Tryp7 lf Tryz.f7
theorem Tryc7 : CallOk Tryz.prog TryG 7 TryF7 := funX_ok Trymix callsOk_0 Tryz.func7 (by kernel_rfl)
def Trye8 : FuncId → Option Fun := fun f => none
def Tryp8 : Plans := fun id => none
def TryF8 : Fun := funX Tryz.prog TryG (fun _ => true) Trye8 Tryp8 lf Tryz.f8
theorem Tryc8 : CallOk Tryz.prog TryG 8 TryF8 := funX_ok Trymix callsOk_0 Tryz.func8 (by kernel_rfl)
def Trye11 : FuncId → Option Fun := fun f => none
def Tryp11 : Plans := fun id => none
def TryF11 : Fun := funX Tryz.prog TryG (fun _ => true) Trye11 Tryp11 lf Tryz.f11
theorem Tryc11 : CallOk Tryz.prog TryG 11 TryF11 := funX_ok Trymix callsOk_0 Tryz.func11 (by kernel_rfl)
def Trye15 : FuncId → Option Fun := fun f => none
def Tryp15 : Plans := fun id => none
def TryF15 : Fun := funX Tryz.prog TryG (fun _ => true) Trye15 Tryp15 lf Tryz.f15
theorem Tryc15 : CallOk Tryz.prog TryG 15 TryF15 := funX_ok Trymix callsOk_0 Tryz.func15 (by kernel_rfl)
def Trye17 : FuncId → Option Fun := fun f => none
def Tryp17 : Plans := fun id => none
def TryF17 : Fun := funX Tryz.prog TryG (fun _ => true) Trye17 Tryp17 lf Tryz.f17
theorem Tryc17 : CallOk Tryz.prog TryG 17 TryF17 := funX_ok Trymix callsOk_0 Tryz.func17 (by kernel_rfl)
def Trye24 : FuncId → Option Fun := fun f => none
def Tryp24 : Plans := fun id => none
def TryF24 : Fun := funX Tryz.prog TryG (fun _ => true) Trye24 Tryp24 lf Tryz.f24
theorem Tryc24 : CallOk Tryz.prog TryG 24 TryF24 := funX_ok Trymix callsOk_0 Tryz.func24 (by kernel_rfl)
def TryF26 : Fun := atomAdd .i64
theorem Tryc26 : CallOk Tryz.prog TryG 26 TryF26 := atomAdd_ok Tryz.func26 (by kernel_rfl) (by kernel_rfl) (by kernel_rfl) .i64 (by kernel_rfl)
def Trye16 : FuncId → Option Fun := fun f => match Nat.beq f 26 with | true => some TryF26 | false => none
def Tryp16 : Plans := fun id => none
def TryF16 : Fun := funX Tryz.prog TryG (fun _ => true) Trye16 Tryp16 lf Tryz.f16
theorem Tryc16 : CallOk Tryz.prog TryG 16 TryF16 := funX_ok Trymix (callsOk_cons Tryc26 callsOk_0) Tryz.func16 (by kernel_rfl)
def Trye205 : FuncId → Option Fun := fun f => match Nat.beq f 16 with | true => some TryF16 | false => none
def Tryp205 : Plans := fun id => none
def TryF205 : Fun := funX Tryz.prog TryG (fun _ => true) Trye205 Tryp205 lf Tryz.f205
theorem Tryc205 : CallOk Tryz.prog TryG 205 TryF205 := funX_ok Trymix (callsOk_cons Tryc16 callsOk_0) Tryz.func205 (by kernel_rfl)
def Trye28 : FuncId → Option Fun := fun f => none
def Tryp28 : Plans := fun id => none
def TryF28 : Fun := funX Tryz.prog TryG (fun _ => true) Trye28 Tryp28 lf Tryz.f28
theorem Tryc28 : CallOk Tryz.prog TryG 28 TryF28 := funX_ok Trymix callsOk_0 Tryz.func28 (by kernel_rfl)
def Trye29 : FuncId → Option Fun := fun f => none
def Tryp29 : Plans := fun id => none
def TryF29 : Fun := funX Tryz.prog TryG (fun _ => true) Trye29 Tryp29 lf Tryz.f29
theorem Tryc29 : CallOk Tryz.prog TryG 29 TryF29 := funX_ok Trymix callsOk_0 Tryz.func29 (by kernel_rfl)
def Trye30 : FuncId → Option Fun := fun f => none
def Tryp30 : Plans := fun id => none
def TryF30 : Fun := funX Tryz.prog TryG (fun _ => true) Trye30 Tryp30 lf Tryz.f30
theorem Tryc30 : CallOk Tryz.prog TryG 30 TryF30 := funX_ok Trymix callsOk_0 Tryz.func30 (by kernel_rfl)
def Trye31 : FuncId → Option Fun := fun f => none
def Tryp31 : Plans := fun id => none
def TryF31 : Fun := funX Tryz.prog TryG (fun _ => true) Trye31 Tryp31 lf Tryz.f31
theorem Tryc31 : CallOk Tryz.prog TryG 31 TryF31 := funX_ok Trymix callsOk_0 Tryz.func31 (by kernel_rfl)
def Trye41 : FuncId → Option Fun := fun f => none
def Tryp41 : Plans := fun id => none
def TryF41 : Fun := funX Tryz.prog TryG (fun _ => true) Trye41 Tryp41 lf Tryz.f41
theorem Tryc41 : CallOk Tryz.prog TryG 41 TryF41 := funX_ok Trymix callsOk_0 Tryz.func41 (by kernel_rfl)
def Trye42 : FuncId → Option Fun := fun f => none
def Tryp42 : Plans := fun id => none
def TryF42 : Fun := funX Tryz.prog TryG (fun _ => true) Trye42 Tryp42 lf Tryz.f42
theorem Tryc42 : CallOk Tryz.prog TryG 42 TryF42 := funX_ok Trymix callsOk_0 Tryz.func42 (by kernel_rfl)
def Trye20 : FuncId → Option Fun := fun f => match Nat.beq f 41 with | true => some TryF41 | false => match Nat.beq f 42 with | true => some TryF42 | false => none
def Tryp20 : Plans := fun id => match Nat.beq id 1 with | true => some ([0, 1, 3, 0, 8, 31, 31, 127, 255, 511], [(0, .pure), (1, .read 0), (2, .heavy), (3, .pure), (4, .read 1), (5, .heavy), (6, .pure), (7, .heavy), (8, .pure), (9, .heavy)]) | false => none
def TryF20 : Fun := funX Tryz.prog TryG (fun _ => true) Trye20 Tryp20 lf Tryz.f20
theorem Tryc20 : CallOk Tryz.prog TryG 20 TryF20 := funX_ok Trymix (callsOk_cons Tryc41 (callsOk_cons Tryc42 callsOk_0)) Tryz.func20 (by kernel_rfl)
def Trye12 : FuncId → Option Fun := fun f => match Nat.beq f 20 with | true => some TryF20 | false => none
def Tryp12 : Plans := fun id => none
def TryF12 : Fun := funX Tryz.prog TryG (fun _ => true) Trye12 Tryp12 lf Tryz.f12
theorem Tryc12 : CallOk Tryz.prog TryG 12 TryF12 := funX_ok Trymix (callsOk_cons Tryc20 callsOk_0) Tryz.func12 (by kernel_rfl)
def Trye43 : FuncId → Option Fun := fun f => none
def Tryp43 : Plans := fun id => none
def TryF43 : Fun := funX Tryz.prog TryG (fun _ => true) Trye43 Tryp43 lf Tryz.f43
theorem Tryc43 : CallOk Tryz.prog TryG 43 TryF43 := funX_ok Trymix callsOk_0 Tryz.func43 (by kernel_rfl)
def TryF47 : Fun := atomStore
theorem Tryc47 : CallOk Tryz.prog TryG 47 TryF47 := atomStore_ok Tryz.func47 (by kernel_rfl) (by kernel_rfl) (by kernel_rfl) (by kernel_rfl)
def Trye25 : FuncId → Option Fun := fun f => match Nat.beq f 47 with | true => some TryF47 | false => none
def Tryp25 : Plans := fun id => none
def TryF25 : Fun := funX Tryz.prog TryG (fun _ => true) Trye25 Tryp25 lf Tryz.f25
theorem Tryc25 : CallOk Tryz.prog TryG 25 TryF25 := funX_ok Trymix (callsOk_cons Tryc47 callsOk_0) Tryz.func25 (by kernel_rfl)
def Trye93 : FuncId → Option Fun := fun f => none
def Tryp93 : Plans := fun id => none
def TryF93 : Fun := funX Tryz.prog TryG (fun _ => true) Trye93 Tryp93 lf Tryz.f93
theorem Tryc93 : CallOk Tryz.prog TryG 93 TryF93 := funX_ok Trymix callsOk_0 Tryz.func93 (by kernel_rfl)
def Trye44 : FuncId → Option Fun := fun f => match Nat.beq f 93 with | true => some TryF93 | false => none
def Tryp44 : Plans := fun id => none
def TryF44 : Fun := funX Tryz.prog TryG (fun _ => true) Trye44 Tryp44 lf Tryz.f44
theorem Tryc44 : CallOk Tryz.prog TryG 44 TryF44 := funX_ok Trymix (callsOk_cons Tryc93 callsOk_0) Tryz.func44 (by kernel_rfl)
def Trye21 : FuncId → Option Fun := fun f => match Nat.beq f 43 with | true => some TryF43 | false => match Nat.beq f 44 with | true => some TryF44 | false => none
def Tryp21 : Plans := fun id => none
def TryF21 : Fun := funX Tryz.prog TryG (fun _ => true) Trye21 Tryp21 lf Tryz.f21
theorem Tryc21 : CallOk Tryz.prog TryG 21 TryF21 := funX_ok Trymix (callsOk_cons Tryc43 (callsOk_cons Tryc44 callsOk_0)) Tryz.func21 (by kernel_rfl)
def Trye13 : FuncId → Option Fun := fun f => match Nat.beq f 21 with | true => some TryF21 | false => match Nat.beq f 22 with | true => some TryF22 | false => none
def Tryp13 : Plans := fun id => none
def TryF13 : Fun := funX Tryz.prog TryG (fun _ => true) Trye13 Tryp13 lf Tryz.f13
theorem Tryc13 : CallOk Tryz.prog TryG 13 TryF13 := funX_ok Trymix (callsOk_cons Tryc21 (callsOk_cons Tryc22 callsOk_0)) Tryz.func13 (by kernel_rfl)
def Trye99 : FuncId → Option Fun := fun f => none
def Tryp99 : Plans := fun id => none
def TryF99 : Fun := funX Tryz.prog TryG (fun _ => true) Trye99 Tryp99 lf Tryz.f99
theorem Tryc99 : CallOk Tryz.prog TryG 99 TryF99 := funX_ok Trymix callsOk_0 Tryz.func99 (by kernel_rfl)
def Trye53 : FuncId → Option Fun := fun f => match Nat.beq f 30 with | true => some TryF30 | false => match Nat.beq f 99 with | true => some TryF99 | false => none
def Tryp53 : Plans := fun id => match Nat.beq id 5 with | true => some ([0, 1, 3, 0, 8, 31, 63, 127, 255, 511, 127, 1151, 4095, 8191], [(0, .pure), (1, .pure), (2, .read 0), (3, .pure), (4, .read 0), (5, .pure), (6, .pure), (7, .pure), (8, .pure), (9, .read 0), (10, .pure), (11, .read 0), (12, .pure), (13, .pure)]) | false => none
def TryF53 : Fun := funX Tryz.prog TryG (fun _ => true) Trye53 Tryp53 lf Tryz.f53
theorem Tryc53 : CallOk Tryz.prog TryG 53 TryF53 := funX_ok Trymix (callsOk_cons Tryc30 (callsOk_cons Tryc99 callsOk_0)) Tryz.func53 (by kernel_rfl)
def Trye88 : FuncId → Option Fun := fun f => none
def Tryp88 : Plans := fun id => match Nat.beq id 1 with | true => some ([0, 1, 3, 7, 15, 0, 32, 96, 224, 480, 1023, 2047], [(0, .pure), (1, .pure), (2, .pure), (3, .read 0), (4, .heavy), (5, .pure), (6, .pure), (7, .pure), (8, .read 1), (9, .pure), (10, .heavy), (11, .pure)]) | false => none
def TryF88 : Fun := funX Tryz.prog TryG (fun _ => true) Trye88 Tryp88 lf Tryz.f88
theorem Tryc88 : CallOk Tryz.prog TryG 88 TryF88 := funX_ok Trymix callsOk_0 Tryz.func88 (by kernel_rfl)
def Trye157 : FuncId → Option Fun := fun f => none
def Tryp157 : Plans := fun id => none
def TryF157 : Fun := funX Tryz.prog TryG (fun _ => true) Trye157 Tryp157 lf Tryz.f157
theorem Tryc157 : CallOk Tryz.prog TryG 157 TryF157 := funX_ok Trymix callsOk_0 Tryz.func157 (by kernel_rfl)
def Trye159 : FuncId → Option Fun := fun f => none
def Tryp159 : Plans := fun id => none
def TryF159 : Fun := funX Tryz.prog TryG (fun _ => true) Trye159 Tryp159 lf Tryz.f159
theorem Tryc159 : CallOk Tryz.prog TryG 159 TryF159 := funX_ok Trymix callsOk_0 Tryz.func159 (by kernel_rfl)
def Trye161 : FuncId → Option Fun := fun f => none
def Tryp161 : Plans := fun id => match Nat.beq id 18 with | true => some ([0, 1, 3, 7, 15, 3, 35, 99, 255, 511], [(0, .pure), (1, .pure), (5, .pure), (6, .read 0), (7, .heavy), (2, .pure), (3, .pure), (4, .read 1), (8, .pure), (9, .pure)]) | false => match Nat.beq id 20 with | true => some ([0, 0, 2, 0, 8, 24, 0, 64, 192, 504, 0, 1024, 3072, 8184, 16376, 32760, 65528, 131071], [(3, .pure), (4, .read 0), (5, .heavy), (6, .pure), (7, .pure), (8, .read 1), (9, .heavy), (10, .pure), (11, .pure), (12, .read 2), (13, .heavy), (0, .pure), (1, .pure), (2, .pure), (14, .pure), (15, .pure), (16, .alloc), (17, .heavy)]) | false => match Nat.beq id 22 with | true => some ([0, 1, 3, 7, 0, 16, 48, 112, 240, 15, 1023], [(0, .pure), (1, .pure), (2, .pure), (3, .read 0), (4, .pure), (5, .pure), (6, .pure), (7, .read 0), (8, .pure), (9, .pure), (10, .pure)]) | false => none
def TryF161 : Fun := funX Tryz.prog TryG (fun _ => true) Trye161 Tryp161 lf Tryz.f161
theorem Tryc161 : CallOk Tryz.prog TryG 161 TryF161 := funX_ok Trymix callsOk_0 Tryz.func161 (by kernel_rfl)
def Trye171 : FuncId → Option Fun := fun f => none
def Tryp171 : Plans := fun id => none
def TryF171 : Fun := funX Tryz.prog TryG (fun _ => true) Trye171 Tryp171 lf Tryz.f171
theorem Tryc171 : CallOk Tryz.prog TryG 171 TryF171 := funX_ok Trymix callsOk_0 Tryz.func171 (by kernel_rfl)
def Trye82 : FuncId → Option Fun := fun f => match Nat.beq f 171 with | true => some TryF171 | false => none
def Tryp82 : Plans := fun id => none
def TryF82 : Fun := funX Tryz.prog TryG (fun _ => true) Trye82 Tryp82 lf Tryz.f82
theorem Tryc82 : CallOk Tryz.prog TryG 82 TryF82 := funX_ok Trymix (callsOk_cons Tryc171 callsOk_0) Tryz.func82 (by kernel_rfl)
def TryF173 : Fun := atomLoad .i64
theorem Tryc173 : CallOk Tryz.prog TryG 173 TryF173 := atomLoad_ok Tryz.func173 (by kernel_rfl) (by kernel_rfl) (by kernel_rfl) .i64 (by kernel_rfl)
def Trye84 : FuncId → Option Fun := fun f => match Nat.beq f 173 with | true => some TryF173 | false => none
def Tryp84 : Plans := fun id => none
def TryF84 : Fun := funX Tryz.prog TryG (fun _ => true) Trye84 Tryp84 lf Tryz.f84
theorem Tryc84 : CallOk Tryz.prog TryG 84 TryF84 := funX_ok Trymix (callsOk_cons Tryc173 callsOk_0) Tryz.func84 (by kernel_rfl)
def Trye199 : FuncId → Option Fun := fun f => match Nat.beq f 84 with | true => some TryF84 | false => none
def Tryp199 : Plans := fun id => none
def TryF199 : Fun := funX Tryz.prog TryG (fun _ => true) Trye199 Tryp199 lf Tryz.f199
theorem Tryc199 : CallOk Tryz.prog TryG 199 TryF199 := funX_ok Trymix (callsOk_cons Tryc84 callsOk_0) Tryz.func199 (by kernel_rfl)
def Trye204 : FuncId → Option Fun := fun f => match Nat.beq f 199 with | true => some TryF199 | false => none
def Tryp204 : Plans := fun id => match Nat.beq id 1 with | true => some ([0, 1, 0, 4, 12, 28, 60, 127, 255], [(0, .pure), (1, .heavy), (2, .pure), (3, .pure), (4, .pure), (5, .pure), (6, .read 1), (7, .pure), (8, .pure)]) | false => none
def TryF204 : Fun := funX Tryz.prog TryG (fun _ => true) Trye204 Tryp204 lf Tryz.f204
theorem Tryc204 : CallOk Tryz.prog TryG 204 TryF204 := funX_ok Trymix (callsOk_cons Tryc199 callsOk_0) Tryz.func204 (by kernel_rfl)
def TryF193 : Fun := idxF
theorem Tryc193 : CallOk Tryz.prog TryG 193 TryF193 := idxF_ok Tryz.func193 (by kernel_rfl) (by kernel_rfl) (by kernel_rfl) (by kernel_rfl)
def Trye94 : FuncId → Option Fun := fun f => match Nat.beq f 193 with | true => some TryF193 | false => none
def Tryp94 : Plans := fun id => none
def TryF94 : Fun := funX Tryz.prog TryG (fun _ => true) Trye94 Tryp94 lf Tryz.f94
theorem Tryc94 : CallOk Tryz.prog TryG 94 TryF94 := funX_ok Trymix (callsOk_cons Tryc193 callsOk_0) Tryz.func94 (by kernel_rfl)
def Trye46 : FuncId → Option Fun := fun f => match Nat.beq f 94 with | true => some TryF94 | false => none
def Tryp46 : Plans := fun id => none
def TryF46 : Fun := funX Tryz.prog TryG (fun _ => true) Trye46 Tryp46 lf Tryz.f46
theorem Tryc46 : CallOk Tryz.prog TryG 46 TryF46 := funX_ok Trymix (callsOk_cons Tryc94 callsOk_0) Tryz.func46 (by kernel_rfl)
def Trye23 : FuncId → Option Fun := fun f => match Nat.beq f 46 with | true => some TryF46 | false => none
def Tryp23 : Plans := fun id => none
def TryF23 : Fun := funX Tryz.prog TryG (fun _ => true) Trye23 Tryp23 lf Tryz.f23
theorem Tryc23 : CallOk Tryz.prog TryG 23 TryF23 := funX_ok Trymix (callsOk_cons Tryc46 callsOk_0) Tryz.func23 (by kernel_rfl)
def Trye14 : FuncId → Option Fun := fun f => match Nat.beq f 23 with | true => some TryF23 | false => match Nat.beq f 24 with | true => some TryF24 | false => match Nat.beq f 25 with | true => some TryF25 | false => none
def Tryp14 : Plans := fun id => none
def TryF14 : Fun := funX Tryz.prog TryG (fun _ => true) Trye14 Tryp14 lf Tryz.f14
theorem Tryc14 : CallOk Tryz.prog TryG 14 TryF14 := funX_ok Trymix (callsOk_cons Tryc23 (callsOk_cons Tryc24 (callsOk_cons Tryc25 callsOk_0))) Tryz.func14 (by kernel_rfl)
def Trye6 : FuncId → Option Fun := fun f => match Nat.beq f 14 with | true => some TryF14 | false => match Nat.beq f 15 with | true => some TryF15 | false => none
def Tryp6 : Plans := fun id => none
def TryF6 : Fun := funX Tryz.prog TryG (fun _ => true) Trye6 Tryp6 lf Tryz.f6
theorem Tryc6 : CallOk Tryz.prog TryG 6 TryF6 := funX_ok Trymix (callsOk_cons Tryc14 (callsOk_cons Tryc15 callsOk_0)) Tryz.func6 (by kernel_rfl)
def Trye496 : FuncId → Option Fun := fun f => match Nat.beq f 94 with | true => some TryF94 | false => none
def Tryp496 : Plans := fun id => none
def TryF496 : Fun := funX Tryz.prog TryG (fun _ => true) Trye496 Tryp496 lf Tryz.f496
theorem Tryc496 : CallOk Tryz.prog TryG 496 TryF496 := funX_ok Trymix (callsOk_cons Tryc94 callsOk_0) Tryz.func496 (by kernel_rfl)
def Trye372 : FuncId → Option Fun := fun f => match Nat.beq f 496 with | true => some TryF496 | false => none
def Tryp372 : Plans := fun id => match Nat.beq id 3 with | true => some ([0, 0, 3, 0, 0, 0, 32, 112, 248, 7, 1023, 2047], [(0, .pure), (1, .pure), (2, .pure), (3, .pure), (4, .pure), (5, .pure), (6, .pure), (7, .pure), (8, .pure), (9, .pure), (10, .pure), (11, .pure)]) | false => none
def TryF372 : Fun := funX Tryz.prog TryG (fun _ => true) Trye372 Tryp372 lf Tryz.f372
theorem Tryc372 : CallOk Tryz.prog TryG 372 TryF372 := funX_ok Trymix (callsOk_cons Tryc496 callsOk_0) Tryz.func372 (by kernel_rfl)
def Trye216 : FuncId → Option Fun := fun f => match Nat.beq f 372 with | true => some TryF372 | false => none
def Tryp216 : Plans := fun id => none
def TryF216 : Fun := funX Tryz.prog TryG (fun _ => true) Trye216 Tryp216 lf Tryz.f216
theorem Tryc216 : CallOk Tryz.prog TryG 216 TryF216 := funX_ok Trymix (callsOk_cons Tryc372 callsOk_0) Tryz.func216 (by kernel_rfl)
def Trye613 : FuncId → Option Fun := fun f => match Nat.beq f 46 with | true => some TryF46 | false => none
def Tryp613 : Plans := fun id => match Nat.beq id 1 with | true => some ([0, 0, 0, 7, 0, 15, 63], [(0, .read 0), (1, .read 0), (2, .read 0), (3, .pure), (4, .read 0), (5, .pure), (6, .pure)]) | false => match Nat.beq id 4 with | true => some ([0, 0, 3, 7, 0, 0, 48, 112, 15, 511], [(0, .pure), (1, .pure), (2, .pure), (3, .heavy), (4, .read 1), (5, .pure), (6, .pure), (7, .pure), (8, .pure), (9, .pure)]) | false => none
def TryI613 : IterF := iterX Tryz.prog TryG (fun _ => true) Trye613 Tryp613 lf Tryz.f613
theorem Tryj613 : IterOk Tryz.prog TryG 613 TryI613 := iterX_ok Trymix (callsOk_cons Tryc46 callsOk_0) Tryz.func613 (by kernel_rfl)
def TryF194 : Fun := atomLoad .u32
theorem Tryc194 : CallOk Tryz.prog TryG 194 TryF194 := atomLoad_ok Tryz.func194 (by kernel_rfl) (by kernel_rfl) (by kernel_rfl) .u32 (by kernel_rfl)
def Trye95 : FuncId → Option Fun := fun f => match Nat.beq f 194 with | true => some TryF194 | false => none
def Tryp95 : Plans := fun id => none
def TryF95 : Fun := funX Tryz.prog TryG (fun _ => true) Trye95 Tryp95 lf Tryz.f95
theorem Tryc95 : CallOk Tryz.prog TryG 95 TryF95 := funX_ok Trymix (callsOk_cons Tryc194 callsOk_0) Tryz.func95 (by kernel_rfl)
def Trye49 : FuncId → Option Fun := fun f => none
def Tryp49 : Plans := fun id => match Nat.beq id 0 with | true => some ([0, 0, 3, 7, 15], [(0, .read 0), (1, .alloc), (2, .pure), (3, .pure), (4, .heavy)]) | false => none
def TryF49 : Fun := funX Tryz.prog TryG (fun _ => true) Trye49 Tryp49 lf Tryz.f49
theorem Tryc49 : CallOk Tryz.prog TryG 49 TryF49 := funX_ok Trymix callsOk_0 Tryz.func49 (by kernel_rfl)
def Trye222 : FuncId → Option Fun := fun f => none
def Tryp222 : Plans := fun id => match Nat.beq id 3 with | true => some ([0, 0, 0, 0, 0, 0, 48, 112, 0, 0, 768, 1792, 4083, 8179, 16383, 32767], [(0, .pure), (1, .pure), (4, .pure), (5, .pure), (6, .pure), (7, .read 0), (8, .pure), (9, .pure), (10, .pure), (11, .read 0), (12, .pure), (13, .heavy), (2, .pure), (3, .pure), (14, .pure), (15, .heavy)]) | false => none
def TryF222 : Fun := funX Tryz.prog TryG (fun _ => true) Trye222 Tryp222 lf Tryz.f222
theorem Tryc222 : CallOk Tryz.prog TryG 222 TryF222 := funX_ok Trymix callsOk_0 Tryz.func222 (by kernel_rfl)
def Trye206 : FuncId → Option Fun := fun f => none
def Tryp206 : Plans := fun id => match Nat.beq id 5 with | true => some ([0, 1, 3, 7, 15, 7, 39, 103, 231, 7, 519, 2023, 4071, 8167, 16383, 32767], [(0, .pure), (1, .pure), (2, .pure), (3, .pure), (4, .read 0), (5, .pure), (6, .pure), (7, .pure), (8, .read 0), (9, .pure), (10, .pure), (11, .pure), (12, .pure), (13, .read 0), (14, .pure), (15, .pure)]) | false => match Nat.beq id 6 with | true => some ([0, 0, 2, 6, 14, 0, 32, 126, 255, 511, 1023], [(1, .pure), (2, .pure), (3, .pure), (4, .read 0), (5, .read 0), (6, .alloc), (7, .heavy), (0, .pure), (8, .pure), (9, .pure), (10, .heavy)]) | false => match Nat.beq id 8 with | true => some ([0, 1, 3, 7, 15, 0, 32, 96, 224, 511, 1023], [(0, .pure), (1, .pure), (2, .pure), (3, .read 0), (4, .pure), (5, .pure), (6, .pure), (7, .pure), (8, .read 0), (9, .pure), (10, .pure)]) | false => none
def TryF206 : Fun := funX Tryz.prog TryG (fun _ => true) Trye206 Tryp206 lf Tryz.f206
theorem Tryc206 : CallOk Tryz.prog TryG 206 TryF206 := funX_ok Trymix callsOk_0 Tryz.func206 (by kernel_rfl)
def Trye156 : FuncId → Option Fun := fun f => none
def Tryp156 : Plans := fun id => none
def TryF156 : Fun := funX Tryz.prog TryG (fun _ => true) Trye156 Tryp156 lf Tryz.f156
theorem Tryc156 : CallOk Tryz.prog TryG 156 TryF156 := funX_ok Trymix callsOk_0 Tryz.func156 (by kernel_rfl)
def TryF364 : Fun := atomStore
theorem Tryc364 : CallOk Tryz.prog TryG 364 TryF364 := atomStore_ok Tryz.func364 (by kernel_rfl) (by kernel_rfl) (by kernel_rfl) (by kernel_rfl)
def Trye365 : FuncId → Option Fun := fun f => none
def Tryp365 : Plans := fun id => none
def TryF365 : Fun := funX Tryz.prog TryG (fun _ => true) Trye365 Tryp365 lf Tryz.f365
theorem Tryc365 : CallOk Tryz.prog TryG 365 TryF365 := funX_ok Trymix callsOk_0 Tryz.func365 (by kernel_rfl)
def Trye197 : FuncId → Option Fun := fun f => match Nat.beq f 364 with | true => some TryF364 | false => match Nat.beq f 365 with | true => some TryF365 | false => none
def Tryp197 : Plans := fun id => match Nat.beq id 0 with | true => some ([0, 1, 3, 0, 8, 31], [(3, .pure), (4, .heavy), (0, .pure), (1, .pure), (2, .pure), (5, .heavy)]) | false => none
def TryF197 : Fun := funX Tryz.prog TryG (fun _ => true) Trye197 Tryp197 lf Tryz.f197
theorem Tryb197 : DCallOk Tryz.prog TryG 197 TryF197 := (funX_body Trymix (callsOk_cons Tryc364 (callsOk_cons Tryc365 callsOk_0)) Tryz.func197 (by kernel_rfl)).deferred
def Trye367 : FuncId → Option Fun := fun f => none
def Tryp367 : Plans := fun id => none
def TryF367 : Fun := funX Tryz.prog TryG (fun _ => true) Trye367 Tryp367 lf Tryz.f367
theorem Tryc367 : CallOk Tryz.prog TryG 367 TryF367 := funX_ok Trymix callsOk_0 Tryz.func367 (by kernel_rfl)
def Trye200 : FuncId → Option Fun := fun f => match Nat.beq f 367 with | true => some TryF367 | false => none
def Tryp200 : Plans := fun id => none
def TryF200 : Fun := funX Tryz.prog TryG (fun _ => true) Trye200 Tryp200 lf Tryz.f200
theorem Tryc200 : CallOk Tryz.prog TryG 200 TryF200 := funX_ok Trymix (callsOk_cons Tryc367 callsOk_0) Tryz.func200 (by kernel_rfl)
def Trye370 : FuncId → Option Fun := fun f => none
def Tryp370 : Plans := fun id => none
def TryF370 : Fun := funX Tryz.prog TryG (fun _ => true) Trye370 Tryp370 lf Tryz.f370
theorem Tryc370 : CallOk Tryz.prog TryG 370 TryF370 := funX_ok Trymix callsOk_0 Tryz.func370 (by kernel_rfl)
def Trye371 : FuncId → Option Fun := fun f => none
def Tryp371 : Plans := fun id => match Nat.beq id 6 with | true => some ([0, 0, 3, 7, 0, 0, 32, 112, 240, 511], [(0, .pure), (1, .pure), (2, .pure), (3, .read 0), (4, .pure), (5, .pure), (6, .pure), (7, .pure), (8, .read 0), (9, .pure)]) | false => match Nat.beq id 11 with | true => some ([0, 0, 3, 7, 0, 0, 32, 112, 240, 511], [(0, .pure), (1, .pure), (2, .pure), (3, .read 0), (4, .pure), (5, .pure), (6, .pure), (7, .pure), (8, .read 0), (9, .pure)]) | false => none
def TryF371 : Fun := funX Tryz.prog TryG (fun _ => true) Trye371 Tryp371 lf Tryz.f371
theorem Tryc371 : CallOk Tryz.prog TryG 371 TryF371 := funX_ok Trymix callsOk_0 Tryz.func371 (by kernel_rfl)
def Trye375 : FuncId → Option Fun := fun f => none
def Tryp375 : Plans := fun id => none
def TryF375 : Fun := funX Tryz.prog TryG (fun _ => true) Trye375 Tryp375 lf Tryz.f375
theorem Tryc375 : CallOk Tryz.prog TryG 375 TryF375 := funX_ok Trymix callsOk_0 Tryz.func375 (by kernel_rfl)
def Trye229 : FuncId → Option Fun := fun f => none
def Tryp229 : Plans := fun id => none
def TryF229 : Fun := funX Tryz.prog TryG (fun _ => true) Trye229 Tryp229 lf Tryz.f229
theorem Tryc229 : CallOk Tryz.prog TryG 229 TryF229 := funX_ok Trymix callsOk_0 Tryz.func229 (by kernel_rfl)
def Trye368 : FuncId → Option Fun := fun f => none
def Tryp368 : Plans := fun id => none
def TryF368 : Fun := funX Tryz.prog TryG (fun _ => true) Trye368 Tryp368 lf Tryz.f368
theorem Tryc368 : CallOk Tryz.prog TryG 368 TryF368 := funX_ok Trymix callsOk_0 Tryz.func368 (by kernel_rfl)
def Trye379 : FuncId → Option Fun := fun f => none
def Tryp379 : Plans := fun id => none
def TryF379 : Fun := funX Tryz.prog TryG (fun _ => true) Trye379 Tryp379 lf Tryz.f379
theorem Tryc379 : CallOk Tryz.prog TryG 379 TryF379 := funX_ok Trymix callsOk_0 Tryz.func379 (by kernel_rfl)
def Trye228 : FuncId → Option Fun := fun f => match Nat.beq f 229 with | true => some TryF229 | false => match Nat.beq f 368 with | true => some TryF368 | false => match Nat.beq f 379 with | true => some TryF379 | false => none
def Tryp228 : Plans := fun id => none
def TryF228 : Fun := funX Tryz.prog TryG (fun _ => true) Trye228 Tryp228 lf Tryz.f228
theorem Tryc228 : CallOk Tryz.prog TryG 228 TryF228 := funX_ok Trymix (callsOk_cons Tryc229 (callsOk_cons Tryc368 (callsOk_cons Tryc379 callsOk_0))) Tryz.func228 (by kernel_rfl)
def Trye114 : FuncId → Option Fun := fun f => match Nat.beq f 82 with | true => some TryF82 | false => match Nat.beq f 228 with | true => some TryF228 | false => none
def Tryp114 : Plans := fun id => none
def TryF114 : Fun := funX Tryz.prog TryG (fun _ => true) Trye114 Tryp114 lf Tryz.f114
theorem Tryc114 : CallOk Tryz.prog TryG 114 TryF114 := funX_ok Trymix (callsOk_cons Tryc82 (callsOk_cons Tryc228 callsOk_0)) Tryz.func114 (by kernel_rfl)
def Trye207 : FuncId → Option Fun := fun f => match Nat.beq f 228 with | true => some TryF228 | false => none
def Tryp207 : Plans := fun id => none
def TryF207 : Fun := funX Tryz.prog TryG (fun _ => true) Trye207 Tryp207 lf Tryz.f207
theorem Tryc207 : CallOk Tryz.prog TryG 207 TryF207 := funX_ok Trymix (callsOk_cons Tryc228 callsOk_0) Tryz.func207 (by kernel_rfl)
def Trye221 : FuncId → Option Fun := fun f => match Nat.beq f 228 with | true => some TryF228 | false => none
def Tryp221 : Plans := fun id => none
def TryF221 : Fun := funX Tryz.prog TryG (fun _ => true) Trye221 Tryp221 lf Tryz.f221
theorem Tryc221 : CallOk Tryz.prog TryG 221 TryF221 := funX_ok Trymix (callsOk_cons Tryc228 callsOk_0) Tryz.func221 (by kernel_rfl)
def Trye240 : FuncId → Option Fun := fun f => match Nat.beq f 207 with | true => some TryF207 | false => none
def Tryp240 : Plans := fun id => match Nat.beq id 1 with | true => some ([0, 1, 3, 7, 0, 0, 48, 127, 255, 511, 0, 1024, 3072, 7168, 15360, 32767, 65535], [(4, .pure), (5, .pure), (6, .heavy), (0, .pure), (1, .pure), (2, .pure), (3, .read 1), (7, .pure), (8, .pure), (9, .read 0), (10, .pure), (11, .pure), (12, .pure), (13, .pure), (14, .read 1), (15, .pure), (16, .pure)]) | false => none
def TryF240 : Fun := funX Tryz.prog TryG (fun _ => true) Trye240 Tryp240 lf Tryz.f240
theorem Tryc240 : CallOk Tryz.prog TryG 240 TryF240 := funX_ok Trymix (callsOk_cons Tryc207 callsOk_0) Tryz.func240 (by kernel_rfl)
def Trye242 : FuncId → Option Fun := fun f => match Nat.beq f 207 with | true => some TryF207 | false => none
def Tryp242 : Plans := fun id => match Nat.beq id 1 with | true => some ([0, 1, 3, 7, 0, 0, 48, 127, 255], [(4, .pure), (5, .pure), (6, .heavy), (0, .pure), (1, .pure), (2, .pure), (3, .read 1), (7, .pure), (8, .pure)]) | false => none
def TryF242 : Fun := funX Tryz.prog TryG (fun _ => true) Trye242 Tryp242 lf Tryz.f242
theorem Tryc242 : CallOk Tryz.prog TryG 242 TryF242 := funX_ok Trymix (callsOk_cons Tryc207 callsOk_0) Tryz.func242 (by kernel_rfl)
def Trye397 : FuncId → Option Fun := fun f => match Nat.beq f 207 with | true => some TryF207 | false => none
def Tryp397 : Plans := fun id => none
def TryF397 : Fun := funX Tryz.prog TryG (fun _ => true) Trye397 Tryp397 lf Tryz.f397
theorem Tryc397 : CallOk Tryz.prog TryG 397 TryF397 := funX_ok Trymix (callsOk_cons Tryc207 callsOk_0) Tryz.func397 (by kernel_rfl)
def Trye398 : FuncId → Option Fun := fun f => match Nat.beq f 240 with | true => some TryF240 | false => match Nat.beq f 397 with | true => some TryF397 | false => none
def Tryp398 : Plans := fun id => none
def TryF398 : Fun := funX Tryz.prog TryG (fun _ => true) Trye398 Tryp398 lf Tryz.f398
theorem Tryc398 : CallOk Tryz.prog TryG 398 TryF398 := funX_ok Trymix (callsOk_cons Tryc240 (callsOk_cons Tryc397 callsOk_0)) Tryz.func398 (by kernel_rfl)
def Trye239 : FuncId → Option Fun := fun f => match Nat.beq f 398 with | true => some TryF398 | false => none
def Tryp239 : Plans := fun id => none
def TryF239 : Fun := funX Tryz.prog TryG (fun _ => true) Trye239 Tryp239 lf Tryz.f239
theorem Tryc239 : CallOk Tryz.prog TryG 239 TryF239 := funX_ok Trymix (callsOk_cons Tryc398 callsOk_0) Tryz.func239 (by kernel_rfl)
def Trye120 : FuncId → Option Fun := fun f => none
def Tryp120 : Plans := fun id => none
def TryF120 : Fun := funX Tryz.prog TryG (fun _ => true) Trye120 Tryp120 lf Tryz.f120
theorem Tryc120 : CallOk Tryz.prog TryG 120 TryF120 := funX_ok Trymix callsOk_0 Tryz.func120 (by kernel_rfl)
def Trye233 : FuncId → Option Fun := fun f => match Nat.beq f 120 with | true => some TryF120 | false => none
def Tryp233 : Plans := fun id => none
def TryF233 : Fun := funX Tryz.prog TryG (fun _ => true) Trye233 Tryp233 lf Tryz.f233
theorem Tryc233 : CallOk Tryz.prog TryG 233 TryF233 := funX_ok Trymix (callsOk_cons Tryc120 callsOk_0) Tryz.func233 (by kernel_rfl)
def Trye119 : FuncId → Option Fun := fun f => match Nat.beq f 233 with | true => some TryF233 | false => none
def Tryp119 : Plans := fun id => none
def TryF119 : Fun := funX Tryz.prog TryG (fun _ => true) Trye119 Tryp119 lf Tryz.f119
theorem Tryc119 : CallOk Tryz.prog TryG 119 TryF119 := funX_ok Trymix (callsOk_cons Tryc233 callsOk_0) Tryz.func119 (by kernel_rfl)
def Trye396 : FuncId → Option Fun := fun f => none
def Tryp396 : Plans := fun id => match Nat.beq id 6 with | true => some ([0, 0, 3, 7, 0, 0, 32, 112, 240, 511], [(0, .pure), (1, .pure), (2, .pure), (3, .read 0), (4, .pure), (5, .pure), (6, .pure), (7, .pure), (8, .read 0), (9, .pure)]) | false => match Nat.beq id 11 with | true => some ([0, 0, 3, 7, 0, 0, 32, 112, 240, 511], [(0, .pure), (1, .pure), (2, .pure), (3, .read 0), (4, .pure), (5, .pure), (6, .pure), (7, .pure), (8, .read 0), (9, .pure)]) | false => none
def TryF396 : Fun := funX Tryz.prog TryG (fun _ => true) Trye396 Tryp396 lf Tryz.f396
theorem Tryc396 : CallOk Tryz.prog TryG 396 TryF396 := funX_ok Trymix callsOk_0 Tryz.func396 (by kernel_rfl)
def Trye452 : FuncId → Option Fun := fun f => none
def Tryp452 : Plans := fun id => match Nat.beq id 1 with | true => some ([0, 1, 3, 7, 0, 16, 48, 112, 255, 511, 0, 1024, 3072, 7168, 16383, 32767], [(0, .pure), (1, .pure), (2, .pure), (3, .read 0), (4, .pure), (5, .pure), (6, .pure), (7, .read 0), (8, .pure), (9, .read 0), (10, .pure), (11, .pure), (12, .pure), (13, .read 0), (14, .pure), (15, .pure)]) | false => none
def TryF452 : Fun := funX Tryz.prog TryG (fun _ => true) Trye452 Tryp452 lf Tryz.f452
theorem Tryc452 : CallOk Tryz.prog TryG 452 TryF452 := funX_ok Trymix callsOk_0 Tryz.func452 (by kernel_rfl)
def Trye554 : FuncId → Option Fun := fun f => match Nat.beq f 452 with | true => some TryF452 | false => none
def Tryp554 : Plans := fun id => none
def TryF554 : Fun := funX Tryz.prog TryG (fun _ => true) Trye554 Tryp554 lf Tryz.f554
theorem Tryc554 : CallOk Tryz.prog TryG 554 TryF554 := funX_ok Trymix (callsOk_cons Tryc452 callsOk_0) Tryz.func554 (by kernel_rfl)
def Trye658 : FuncId → Option Fun := fun f => match Nat.beq f 452 with | true => some TryF452 | false => none
def Tryp658 : Plans := fun id => match Nat.beq id 1 with | true => some ([0, 1, 3, 7, 15, 31, 63, 127, 15, 271, 783, 1807, 3855, 8191, 16383, 32767], [(0, .pure), (1, .heavy), (2, .pure), (3, .pure), (4, .pure), (5, .pure), (6, .pure), (7, .read 0), (8, .pure), (9, .pure), (10, .pure), (11, .read 0), (12, .pure), (13, .pure), (14, .pure), (15, .pure)]) | false => none
def TryF658 : Fun := funX Tryz.prog TryG (fun _ => true) Trye658 Tryp658 lf Tryz.f658
theorem Tryc658 : CallOk Tryz.prog TryG 658 TryF658 := funX_ok Trymix (callsOk_cons Tryc452 callsOk_0) Tryz.func658 (by kernel_rfl)
def Trye553 : FuncId → Option Fun := fun f => match Nat.beq f 46 with | true => some TryF46 | false => match Nat.beq f 452 with | true => some TryF452 | false => match Nat.beq f 554 with | true => some TryF554 | false => match Nat.beq f 658 with | true => some TryF658 | false => none
def Tryp553 : Plans := fun id => match Nat.beq id 2 with | true => some ([0, 1, 3, 7, 0, 16, 48, 112, 255, 511, 1023, 0, 4095], [(0, .pure), (1, .pure), (2, .pure), (3, .read 0), (4, .pure), (5, .pure), (6, .pure), (7, .read 0), (8, .pure), (9, .read 0), (10, .pure), (11, .alloc), (12, .heavy)]) | false => match Nat.beq id 17 with | true => some ([0, 0, 2, 6, 14, 30, 31, 127], [(1, .pure), (2, .pure), (3, .pure), (4, .heavy), (0, .read 1), (6, .heavy), (5, .pure), (7, .pure)]) | false => none
def TryF553 : Fun := funX Tryz.prog TryG (fun _ => true) Trye553 Tryp553 lf Tryz.f553
theorem Tryc553 : CallOk Tryz.prog TryG 553 TryF553 := funX_ok Trymix (callsOk_cons Tryc46 (callsOk_cons Tryc452 (callsOk_cons Tryc554 (callsOk_cons Tryc658 callsOk_0)))) Tryz.func553 (by kernel_rfl)
def Trye451 : FuncId → Option Fun := fun f => match Nat.beq f 553 with | true => some TryF553 | false => match Nat.beq f 554 with | true => some TryF554 | false => none
def Tryp451 : Plans := fun id => none
def TryF451 : Fun := funX Tryz.prog TryG (fun _ => true) Trye451 Tryp451 lf Tryz.f451
theorem Tryc451 : CallOk Tryz.prog TryG 451 TryF451 := funX_ok Trymix (callsOk_cons Tryc553 (callsOk_cons Tryc554 callsOk_0)) Tryz.func451 (by kernel_rfl)
def Trye293 : FuncId → Option Fun := fun f => match Nat.beq f 451 with | true => some TryF451 | false => match Nat.beq f 452 with | true => some TryF452 | false => none
def Tryp293 : Plans := fun id => match Nat.beq id 10 with | true => some ([0, 0, 2, 6, 14, 30, 62, 126, 254, 510, 1022, 2046, 254, 4350, 16382, 32766, 255, 131071], [(1, .pure), (2, .pure), (3, .pure), (4, .heavy), (0, .pure), (5, .pure), (6, .pure), (7, .pure), (8, .pure), (9, .pure), (10, .pure), (11, .read 0), (12, .pure), (13, .pure), (14, .pure), (15, .pure), (16, .pure), (17, .pure)]) | false => none
def TryF293 : Fun := funX Tryz.prog TryG (fun _ => true) Trye293 Tryp293 lf Tryz.f293
theorem Tryc293 : CallOk Tryz.prog TryG 293 TryF293 := funX_ok Trymix (callsOk_cons Tryc451 (callsOk_cons Tryc452 callsOk_0)) Tryz.func293 (by kernel_rfl)
def TryF453 : Fun := sameF
theorem Tryc453 : CallOk Tryz.prog TryG 453 TryF453 := sameF_ok Tryz.func453 (by kernel_rfl) (by kernel_rfl) (by kernel_rfl) (by kernel_rfl)
def Trye294 : FuncId → Option Fun := fun f => match Nat.beq f 453 with | true => some TryF453 | false => none
def Tryp294 : Plans := fun id => none
def TryF294 : Fun := funX Tryz.prog TryG (fun _ => true) Trye294 Tryp294 lf Tryz.f294
theorem Tryc294 : CallOk Tryz.prog TryG 294 TryF294 := funX_ok Trymix (callsOk_cons Tryc453 callsOk_0) Tryz.func294 (by kernel_rfl)
def Trye160 : FuncId → Option Fun := fun f => match Nat.beq f 294 with | true => some TryF294 | false => none
def Tryp160 : Plans := fun id => none
def TryF160 : Fun := funX Tryz.prog TryG (fun _ => true) Trye160 Tryp160 lf Tryz.f160
theorem Tryc160 : CallOk Tryz.prog TryG 160 TryF160 := funX_ok Trymix (callsOk_cons Tryc294 callsOk_0) Tryz.func160 (by kernel_rfl)
def Trye225 : FuncId → Option Fun := fun f => match Nat.beq f 294 with | true => some TryF294 | false => none
def Tryp225 : Plans := fun id => none
def TryF225 : Fun := funX Tryz.prog TryG (fun _ => true) Trye225 Tryp225 lf Tryz.f225
theorem Tryc225 : CallOk Tryz.prog TryG 225 TryF225 := funX_ok Trymix (callsOk_cons Tryc294 callsOk_0) Tryz.func225 (by kernel_rfl)
def TryF488 : Fun := markF0
theorem Tryc488 : CallOk Tryz.prog TryG 488 TryF488 := markF0_ok Tryz.func488 (by kernel_rfl) (by kernel_rfl) (by kernel_rfl) .disable (by kernel_rfl)
def TryF489 : Fun := atomCas .i32
theorem Tryc489 : CallOk Tryz.prog TryG 489 TryF489 := atomCas_ok Tryz.func489 (by kernel_rfl) (by kernel_rfl) (by kernel_rfl) .i32 (by kernel_rfl)
def TryF490 : Fun := markF0
theorem Tryc490 : CallOk Tryz.prog TryG 490 TryF490 := markF0_ok Tryz.func490 (by kernel_rfl) (by kernel_rfl) (by kernel_rfl) .enable (by kernel_rfl)
def TryF491 : Fun := markF1
theorem Tryc491 : CallOk Tryz.prog TryG 491 TryF491 := markF1_ok Tryz.func491 (by kernel_rfl) (by kernel_rfl) (by kernel_rfl) .acquire (by kernel_rfl)
def Trye362 : FuncId → Option Fun := fun f => match Nat.beq f 488 with | true => some TryF488 | false => match Nat.beq f 489 with | true => some TryF489 | false => match Nat.beq f 490 with | true => some TryF490 | false => match Nat.beq f 491 with | true => some TryF491 | false => none
def Tryp362 : Plans := fun id => none
def TryF362 : Fun := funX Tryz.prog TryG (fun _ => true) Trye362 Tryp362 lf Tryz.f362
theorem Tryc362 : CallOk Tryz.prog TryG 362 TryF362 := funX_ok Trymix (callsOk_cons Tryc488 (callsOk_cons Tryc489 (callsOk_cons Tryc490 (callsOk_cons Tryc491 callsOk_0)))) Tryz.func362 (by kernel_rfl)
def Trye195 : FuncId → Option Fun := fun f => match Nat.beq f 362 with | true => some TryF362 | false => none
def Tryp195 : Plans := fun id => none
def TryF195 : Fun := funX Tryz.prog TryG (fun _ => true) Trye195 Tryp195 lf Tryz.f195
theorem Tryc195 : CallOk Tryz.prog TryG 195 TryF195 := funX_ok Trymix (callsOk_cons Tryc362 callsOk_0) Tryz.func195 (by kernel_rfl)
def TryF493 : Fun := markF1
theorem Tryc493 : CallOk Tryz.prog TryG 493 TryF493 := markF1_ok Tryz.func493 (by kernel_rfl) (by kernel_rfl) (by kernel_rfl) .releaseMerge (by kernel_rfl)
def TryF494 : Fun := atomAdd .i32
theorem Tryc494 : CallOk Tryz.prog TryG 494 TryF494 := atomAdd_ok Tryz.func494 (by kernel_rfl) (by kernel_rfl) (by kernel_rfl) .i32 (by kernel_rfl)
def Trye363 : FuncId → Option Fun := fun f => match Nat.beq f 488 with | true => some TryF488 | false => match Nat.beq f 490 with | true => some TryF490 | false => match Nat.beq f 493 with | true => some TryF493 | false => match Nat.beq f 494 with | true => some TryF494 | false => none
def Tryp363 : Plans := fun id => none
def TryF363 : Fun := funX Tryz.prog TryG (fun _ => true) Trye363 Tryp363 lf Tryz.f363
theorem Tryc363 : CallOk Tryz.prog TryG 363 TryF363 := funX_ok Trymix (callsOk_cons Tryc488 (callsOk_cons Tryc490 (callsOk_cons Tryc493 (callsOk_cons Tryc494 callsOk_0)))) Tryz.func363 (by kernel_rfl)
def Trye196 : FuncId → Option Fun := fun f => match Nat.beq f 363 with | true => some TryF363 | false => none
def Tryp196 : Plans := fun id => none
def TryF196 : Fun := funX Tryz.prog TryG (fun _ => true) Trye196 Tryp196 lf Tryz.f196
theorem Tryb196 : DCallOk Tryz.prog TryG 196 TryF196 := (funX_body Trymix (callsOk_cons Tryc363 callsOk_0) Tryz.func196 (by kernel_rfl)).deferred
def Trye96 : FuncId → Option Fun := fun f => match Nat.beq f 49 with | true => some TryF49 | false => match Nat.beq f 95 with | true => some TryF95 | false => match Nat.beq f 195 with | true => some TryF195 | false => none
def Tryp96 : Plans := fun id => none
def Tryd96 : FuncId → Option Fun := fun f => match Nat.beq f 196 with | true => some TryF196 | false => match Nat.beq f 197 with | true => some TryF197 | false => none
def TryF96 : Fun := funXT Tryz.prog TryG (fun _ => true) Trye96 Tryd96 Tryp96 lf Tryz.f96
theorem Tryc96 : CallOk Tryz.prog TryG 96 TryF96 := funXT_ok Trymix (callsOk_cons Tryc49 (callsOk_cons Tryc95 (callsOk_cons Tryc195 callsOk_0))) (dcallsOk_cons Tryb196 (dcallsOk_cons Tryb197 dcallsOk_0)) Tryz.func96 (by kernel_rfl)
def Trye48 : FuncId → Option Fun := fun f => match Nat.beq f 95 with | true => some TryF95 | false => match Nat.beq f 96 with | true => some TryF96 | false => none
def Tryp48 : Plans := fun id => none
def TryF48 : Fun := funX Tryz.prog TryG (fun _ => true) Trye48 Tryp48 lf Tryz.f48
theorem Tryc48 : CallOk Tryz.prog TryG 48 TryF48 := funX_ok Trymix (callsOk_cons Tryc95 (callsOk_cons Tryc96 callsOk_0)) Tryz.func48 (by kernel_rfl)
def Trye27 : FuncId → Option Fun := fun f => match Nat.beq f 48 with | true => some TryF48 | false => none
def Tryp27 : Plans := fun id => none
def TryF27 : Fun := funX Tryz.prog TryG (fun _ => true) Trye27 Tryp27 lf Tryz.f27
theorem Tryc27 : CallOk Tryz.prog TryG 27 TryF27 := funX_ok Trymix (callsOk_cons Tryc48 callsOk_0) Tryz.func27 (by kernel_rfl)
def Trye373 : FuncId → Option Fun := fun f => none
def Tryp373 : Plans := fun id => none
def TryF373 : Fun := funX Tryz.prog TryG (fun _ => true) Trye373 Tryp373 lf Tryz.f373
theorem Tryc373 : CallOk Tryz.prog TryG 373 TryF373 := funX_ok Trymix callsOk_0 Tryz.func373 (by kernel_rfl)
def Trye502 : FuncId → Option Fun := fun f => none
def Tryp502 : Plans := fun id => none
def TryF502 : Fun := funX Tryz.prog TryG (fun _ => true) Trye502 Tryp502 lf Tryz.f502
theorem Tryc502 : CallOk Tryz.prog TryG 502 TryF502 := funX_ok Trymix callsOk_0 Tryz.func502 (by kernel_rfl)
def Trye377 : FuncId → Option Fun := fun f => match Nat.beq f 373 with | true => some TryF373 | false => match Nat.beq f 502 with | true => some TryF502 | false => none
def Tryp377 : Plans := fun id => match Nat.beq id 10 with | true => some ([0, 1, 0, 0, 0, 0, 48, 124, 255], [(0, .pure), (1, .heavy), (2, .pure), (3, .pure), (4, .pure), (5, .pure), (6, .pure), (7, .pure), (8, .pure)]) | false => none
def TryF377 : Fun := funX Tryz.prog TryG (fun _ => true) Trye377 Tryp377 lf Tryz.f377
theorem Tryc377 : CallOk Tryz.prog TryG 377 TryF377 := funX_ok Trymix (callsOk_cons Tryc373 (callsOk_cons Tryc502 callsOk_0)) Tryz.func377 (by kernel_rfl)
def Trye309 : FuncId → Option Fun := fun f => match Nat.beq f 377 with | true => some TryF377 | false => none
def Tryp309 : Plans := fun id => none
def TryF309 : Fun := funX Tryz.prog TryG (fun _ => true) Trye309 Tryp309 lf Tryz.f309
theorem Tryc309 : CallOk Tryz.prog TryG 309 TryF309 := funX_ok Trymix (callsOk_cons Tryc377 callsOk_0) Tryz.func309 (by kernel_rfl)
def Trye220 : FuncId → Option Fun := fun f => match Nat.beq f 88 with | true => some TryF88 | false => match Nat.beq f 225 with | true => some TryF225 | false => match Nat.beq f 309 with | true => some TryF309 | false => match Nat.beq f 375 with | true => some TryF375 | false => match Nat.beq f 377 with | true => some TryF377 | false => none
def Tryp220 : Plans := fun id => match Nat.beq id 11 with | true => some ([0, 0, 2, 7, 15], [(1, .pure), (2, .heavy), (0, .read 1), (3, .heavy), (4, .heavy)]) | false => none
def TryF220 : Fun := funX Tryz.prog TryG (fun _ => true) Trye220 Tryp220 lf Tryz.f220
theorem Tryc220 : CallOk Tryz.prog TryG 220 TryF220 := funX_ok Trymix (callsOk_cons Tryc88 (callsOk_cons Tryc225 (callsOk_cons Tryc309 (callsOk_cons Tryc375 (callsOk_cons Tryc377 callsOk_0))))) Tryz.func220 (by kernel_rfl)
def Trye108 : FuncId → Option Fun := fun f => match Nat.beq f 216 with | true => some TryF216 | false => match Nat.beq f 220 with | true => some TryF220 | false => none
def Tryp108 : Plans := fun id => none
def TryF108 : Fun := funX Tryz.prog TryG (fun _ => true) Trye108 Tryp108 lf Tryz.f108
theorem Tryc108 : CallOk Tryz.prog TryG 108 TryF108 := funX_ok Trymix (callsOk_cons Tryc216 (callsOk_cons Tryc220 callsOk_0)) Tryz.func108 (by kernel_rfl)
def TryF504 : Fun := noZero 5
theorem Tryc504 : CallOk Tryz.prog TryG 504 TryF504 := noZero_ok (ps := Tryz.f504.params) Tryz.func504 (by kernel_rfl) (by kernel_rfl) (by kernel_rfl) Tryz.underlying34 (by kernel_rfl)
def Trye381 : FuncId → Option Fun := fun f => match Nat.beq f 504 with | true => some TryF504 | false => none
def Tryp381 : Plans := fun id => match Nat.beq id 0 with | true => some ([0, 1, 3, 7, 15, 31, 0, 127, 255, 0, 512, 1536, 3584, 7680, 16383, 32767], [(0, .pure), (1, .pure), (2, .pure), (3, .read 0), (4, .heavy), (5, .pure), (6, .pure), (7, .pure), (8, .heavy), (9, .pure), (10, .pure), (11, .pure), (12, .read 2), (13, .pure), (14, .pure), (15, .pure)]) | false => none
def TryF381 : Fun := funX Tryz.prog TryG (fun _ => true) Trye381 Tryp381 lf Tryz.f381
theorem Tryc381 : CallOk Tryz.prog TryG 381 TryF381 := funX_ok Trymix (callsOk_cons Tryc504 callsOk_0) Tryz.func381 (by kernel_rfl)
def Trye224 : FuncId → Option Fun := fun f => match Nat.beq f 294 with | true => some TryF294 | false => match Nat.beq f 381 with | true => some TryF381 | false => none
def Tryp224 : Plans := fun id => match Nat.beq id 3 with | true => some ([0, 1, 3, 7, 15, 0, 32, 96, 224, 480, 1023, 0, 4095], [(0, .pure), (1, .pure), (2, .pure), (3, .read 0), (4, .heavy), (5, .pure), (6, .pure), (7, .pure), (8, .read 1), (9, .pure), (10, .pure), (11, .pure), (12, .pure)]) | false => none
def TryF224 : Fun := funX Tryz.prog TryG (fun _ => true) Trye224 Tryp224 lf Tryz.f224
theorem Tryc224 : CallOk Tryz.prog TryG 224 TryF224 := funX_ok Trymix (callsOk_cons Tryc294 (callsOk_cons Tryc381 callsOk_0)) Tryz.func224 (by kernel_rfl)
def Trye117 : FuncId → Option Fun := fun f => match Nat.beq f 88 with | true => some TryF88 | false => match Nat.beq f 160 with | true => some TryF160 | false => match Nat.beq f 224 with | true => some TryF224 | false => none
def Tryp117 : Plans := fun id => none
def TryF117 : Fun := funX Tryz.prog TryG (fun _ => true) Trye117 Tryp117 lf Tryz.f117
theorem Tryc117 : CallOk Tryz.prog TryG 117 TryF117 := funX_ok Trymix (callsOk_cons Tryc88 (callsOk_cons Tryc160 (callsOk_cons Tryc224 callsOk_0))) Tryz.func117 (by kernel_rfl)
def Trye98 : FuncId → Option Fun := fun f => match Nat.beq f 117 with | true => some TryF117 | false => match Nat.beq f 160 with | true => some TryF160 | false => none
def Tryp98 : Plans := fun id => match Nat.beq id 0 with | true => some ([0, 1, 3, 0, 8, 31], [(3, .pure), (4, .heavy), (0, .pure), (1, .pure), (2, .pure), (5, .heavy)]) | false => none
def TryF98 : Fun := funX Tryz.prog TryG (fun _ => true) Trye98 Tryp98 lf Tryz.f98
theorem Tryc98 : CallOk Tryz.prog TryG 98 TryF98 := funX_ok Trymix (callsOk_cons Tryc117 (callsOk_cons Tryc160 callsOk_0)) Tryz.func98 (by kernel_rfl)
def Trye110 : FuncId → Option Fun := fun f => match Nat.beq f 117 with | true => some TryF117 | false => match Nat.beq f 221 with | true => some TryF221 | false => match Nat.beq f 222 with | true => some TryF222 | false => none
def Tryp110 : Plans := fun id => none
def TryF110 : Fun := funX Tryz.prog TryG (fun _ => true) Trye110 Tryp110 lf Tryz.f110
theorem Tryc110 : CallOk Tryz.prog TryG 110 TryF110 := funX_ok Trymix (callsOk_cons Tryc117 (callsOk_cons Tryc221 (callsOk_cons Tryc222 callsOk_0))) Tryz.func110 (by kernel_rfl)
def Trye201 : FuncId → Option Fun := fun f => match Nat.beq f 110 with | true => some TryF110 | false => match Nat.beq f 159 with | true => some TryF159 | false => none
def Tryp201 : Plans := fun id => none
def TryF201 : Fun := funX Tryz.prog TryG (fun _ => true) Trye201 Tryp201 lf Tryz.f201
theorem Tryc201 : CallOk Tryz.prog TryG 201 TryF201 := funX_ok Trymix (callsOk_cons Tryc110 (callsOk_cons Tryc159 callsOk_0)) Tryz.func201 (by kernel_rfl)
def Trye104 : FuncId → Option Fun := fun f => match Nat.beq f 82 with | true => some TryF82 | false => match Nat.beq f 108 with | true => some TryF108 | false => match Nat.beq f 201 with | true => some TryF201 | false => none
def Tryp104 : Plans := fun id => none
def TryF104 : Fun := funX Tryz.prog TryG (fun _ => true) Trye104 Tryp104 lf Tryz.f104
theorem Tryc104 : CallOk Tryz.prog TryG 104 TryF104 := funX_ok Trymix (callsOk_cons Tryc82 (callsOk_cons Tryc108 (callsOk_cons Tryc201 callsOk_0))) Tryz.func104 (by kernel_rfl)
def Trye447 : FuncId → Option Fun := fun f => none
def Tryp447 : Plans := fun id => none
def TryF447 : Fun := funX Tryz.prog TryG (fun _ => true) Trye447 Tryp447 lf Tryz.f447
theorem Tryc447 : CallOk Tryz.prog TryG 447 TryF447 := funX_ok Trymix callsOk_0 Tryz.func447 (by kernel_rfl)
def Trye393 : FuncId → Option Fun := fun f => match Nat.beq f 447 with | true => some TryF447 | false => none
def Tryp393 : Plans := fun id => none
def TryF393 : Fun := funX Tryz.prog TryG (fun _ => true) Trye393 Tryp393 lf Tryz.f393
theorem Tryc393 : CallOk Tryz.prog TryG 393 TryF393 := funX_ok Trymix (callsOk_cons Tryc447 callsOk_0) Tryz.func393 (by kernel_rfl)
def Trye401 : FuncId → Option Fun := fun f => none
def Tryp401 : Plans := fun id => none
def TryF401 : Fun := funX Tryz.prog TryG (fun _ => true) Trye401 Tryp401 lf Tryz.f401
theorem Tryc401 : CallOk Tryz.prog TryG 401 TryF401 := funX_ok Trymix callsOk_0 Tryz.func401 (by kernel_rfl)
def Trye509 : FuncId → Option Fun := fun f => none
def Tryp509 : Plans := fun id => none
def TryF509 : Fun := funX Tryz.prog TryG (fun _ => true) Trye509 Tryp509 lf Tryz.f509
theorem Tryc509 : CallOk Tryz.prog TryG 509 TryF509 := funX_ok Trymix callsOk_0 Tryz.func509 (by kernel_rfl)
def Trye541 : FuncId → Option Fun := fun f => none
def Tryp541 : Plans := fun id => none
def TryF541 : Fun := funX Tryz.prog TryG (fun _ => true) Trye541 Tryp541 lf Tryz.f541
theorem Tryc541 : CallOk Tryz.prog TryG 541 TryF541 := funX_ok Trymix callsOk_0 Tryz.func541 (by kernel_rfl)
def Trye445 : FuncId → Option Fun := fun f => match Nat.beq f 541 with | true => some TryF541 | false => none
def Tryp445 : Plans := fun id => none
def TryF445 : Fun := funX Tryz.prog TryG (fun _ => true) Trye445 Tryp445 lf Tryz.f445
theorem Tryc445 : CallOk Tryz.prog TryG 445 TryF445 := funX_ok Trymix (callsOk_cons Tryc541 callsOk_0) Tryz.func445 (by kernel_rfl)
def Trye284 : FuncId → Option Fun := fun f => match Nat.beq f 445 with | true => some TryF445 | false => none
def Tryp284 : Plans := fun id => none
def TryF284 : Fun := funX Tryz.prog TryG (fun _ => true) Trye284 Tryp284 lf Tryz.f284
theorem Tryc284 : CallOk Tryz.prog TryG 284 TryF284 := funX_ok Trymix (callsOk_cons Tryc445 callsOk_0) Tryz.func284 (by kernel_rfl)
def Trye292 : FuncId → Option Fun := fun f => match Nat.beq f 200 with | true => some TryF200 | false => match Nat.beq f 284 with | true => some TryF284 | false => none
def Tryp292 : Plans := fun id => none
def TryF292 : Fun := funX Tryz.prog TryG (fun _ => true) Trye292 Tryp292 lf Tryz.f292
theorem Tryc292 : CallOk Tryz.prog TryG 292 TryF292 := funX_ok Trymix (callsOk_cons Tryc200 (callsOk_cons Tryc284 callsOk_0)) Tryz.func292 (by kernel_rfl)
def Trye450 : FuncId → Option Fun := fun f => match Nat.beq f 541 with | true => some TryF541 | false => none
def Tryp450 : Plans := fun id => none
def TryF450 : Fun := funX Tryz.prog TryG (fun _ => true) Trye450 Tryp450 lf Tryz.f450
theorem Tryc450 : CallOk Tryz.prog TryG 450 TryF450 := funX_ok Trymix (callsOk_cons Tryc541 callsOk_0) Tryz.func450 (by kernel_rfl)
def Trye291 : FuncId → Option Fun := fun f => match Nat.beq f 450 with | true => some TryF450 | false => none
def Tryp291 : Plans := fun id => none
def TryF291 : Fun := funX Tryz.prog TryG (fun _ => true) Trye291 Tryp291 lf Tryz.f291
theorem Tryc291 : CallOk Tryz.prog TryG 291 TryF291 := funX_ok Trymix (callsOk_cons Tryc450 callsOk_0) Tryz.func291 (by kernel_rfl)
def Trye155 : FuncId → Option Fun := fun f => match Nat.beq f 156 with | true => some TryF156 | false => match Nat.beq f 291 with | true => some TryF291 | false => match Nat.beq f 292 with | true => some TryF292 | false => match Nat.beq f 293 with | true => some TryF293 | false => none
def Tryp155 : Plans := fun id => match Nat.beq id 5 with | true => some ([0, 1, 3, 7, 0, 16, 63, 0, 128, 384, 896, 2047, 4095, 8191, 8191, 16383, 65535], [(0, .pure), (1, .pure), (2, .pure), (3, .read 0), (4, .pure), (5, .alloc), (6, .heavy), (7, .pure), (8, .pure), (9, .pure), (10, .read 1), (11, .heavy), (12, .pure), (13, .pure), (14, .pure), (15, .pure), (16, .pure)]) | false => match Nat.beq id 10 with | true => some ([0, 0, 2, 6, 14, 0, 32, 96, 224, 510, 1023], [(0, .pure), (1, .pure), (2, .pure), (3, .pure), (4, .read 0), (5, .pure), (6, .pure), (7, .pure), (8, .read 0), (9, .pure), (10, .pure)]) | false => none
def TryF155 : Fun := funX Tryz.prog TryG (fun _ => true) Trye155 Tryp155 lf Tryz.f155
theorem Tryc155 : CallOk Tryz.prog TryG 155 TryF155 := funX_ok Trymix (callsOk_cons Tryc156 (callsOk_cons Tryc291 (callsOk_cons Tryc292 (callsOk_cons Tryc293 callsOk_0)))) Tryz.func155 (by kernel_rfl)
def Trye69 : FuncId → Option Fun := fun f => match Nat.beq f 155 with | true => some TryF155 | false => none
def Tryp69 : Plans := fun id => match Nat.beq id 10 with | true => some ([0, 1, 3, 7, 0, 16, 48, 112, 240, 511, 1023], [(0, .pure), (1, .pure), (2, .pure), (3, .read 0), (4, .pure), (5, .pure), (6, .pure), (7, .read 0), (8, .pure), (9, .pure), (10, .pure)]) | false => none
def TryF69 : Fun := funX Tryz.prog TryG (fun _ => true) Trye69 Tryp69 lf Tryz.f69
theorem Tryc69 : CallOk Tryz.prog TryG 69 TryF69 := funX_ok Trymix (callsOk_cons Tryc155 callsOk_0) Tryz.func69 (by kernel_rfl)
def Trye542 : FuncId → Option Fun := fun f => none
def Tryp542 : Plans := fun id => match Nat.beq id 4 with | true => some ([0, 0, 3, 7, 15, 15, 63, 127, 15, 15, 527, 1807, 3855, 8191, 16383], [(0, .pure), (1, .pure), (2, .pure), (3, .pure), (4, .pure), (5, .pure), (6, .pure), (7, .read 0), (8, .pure), (9, .pure), (10, .pure), (11, .pure), (12, .read 0), (13, .heavy), (14, .pure)]) | false => match Nat.beq id 6 with | true => some ([0, 0, 0, 0, 8, 0, 0, 64, 224, 480, 0, 0, 3072, 7168, 16355, 32739, 65535, 131071], [(0, .pure), (1, .pure), (5, .pure), (6, .pure), (7, .pure), (8, .pure), (9, .read 0), (10, .pure), (11, .pure), (12, .pure), (13, .read 0), (14, .pure), (15, .heavy), (2, .pure), (3, .pure), (4, .pure), (16, .pure), (17, .heavy)]) | false => none
def TryF542 : Fun := funX Tryz.prog TryG (fun _ => true) Trye542 Tryp542 lf Tryz.f542
theorem Tryc542 : CallOk Tryz.prog TryG 542 TryF542 := funX_ok Trymix callsOk_0 Tryz.func542 (by kernel_rfl)
def Trye448 : FuncId → Option Fun := fun f => match Nat.beq f 542 with | true => some TryF542 | false => none
def Tryp448 : Plans := fun id => match Nat.beq id 17 with | true => some ([0, 1, 3, 7, 7, 23, 63, 127, 7, 7, 775, 1799, 4095, 8191, 16383], [(0, .pure), (1, .pure), (2, .pure), (3, .pure), (4, .pure), (5, .pure), (6, .pure), (7, .read 0), (8, .pure), (9, .pure), (10, .pure), (11, .read 0), (12, .heavy), (13, .pure), (14, .pure)]) | false => none
def TryF448 : Fun := funX Tryz.prog TryG (fun _ => true) Trye448 Tryp448 lf Tryz.f448
theorem Tryc448 : CallOk Tryz.prog TryG 448 TryF448 := funX_ok Trymix (callsOk_cons Tryc542 callsOk_0) Tryz.func448 (by kernel_rfl)
def Trye552 : FuncId → Option Fun := fun f => none
def Tryp552 : Plans := fun id => none
def TryF552 : Fun := funX Tryz.prog TryG (fun _ => true) Trye552 Tryp552 lf Tryz.f552
theorem Tryc552 : CallOk Tryz.prog TryG 552 TryF552 := funX_ok Trymix callsOk_0 Tryz.func552 (by kernel_rfl)
def Trye449 : FuncId → Option Fun := fun f => match Nat.beq f 552 with | true => some TryF552 | false => none
def Tryp449 : Plans := fun id => none
def TryF449 : Fun := funX Tryz.prog TryG (fun _ => true) Trye449 Tryp449 lf Tryz.f449
theorem Tryc449 : CallOk Tryz.prog TryG 449 TryF449 := funX_ok Trymix (callsOk_cons Tryc552 callsOk_0) Tryz.func449 (by kernel_rfl)
def Trye290 : FuncId → Option Fun := fun f => match Nat.beq f 448 with | true => some TryF448 | false => match Nat.beq f 449 with | true => some TryF449 | false => none
def Tryp290 : Plans := fun id => none
def TryF290 : Fun := funX Tryz.prog TryG (fun _ => true) Trye290 Tryp290 lf Tryz.f290
theorem Tryc290 : CallOk Tryz.prog TryG 290 TryF290 := funX_ok Trymix (callsOk_cons Tryc448 (callsOk_cons Tryc449 callsOk_0)) Tryz.func290 (by kernel_rfl)
def Trye215 : FuncId → Option Fun := fun f => match Nat.beq f 207 with | true => some TryF207 | false => match Nat.beq f 290 with | true => some TryF290 | false => match Nat.beq f 370 with | true => some TryF370 | false => match Nat.beq f 371 with | true => some TryF371 | false => none
def Tryp215 : Plans := fun id => match Nat.beq id 7 with | true => some ([0, 1, 3, 7, 0, 0, 48, 0, 255, 511, 1023], [(4, .pure), (5, .pure), (6, .heavy), (0, .pure), (1, .pure), (2, .pure), (3, .read 1), (7, .pure), (8, .pure), (9, .pure), (10, .heavy)]) | false => none
def TryF215 : Fun := funX Tryz.prog TryG (fun _ => true) Trye215 Tryp215 lf Tryz.f215
theorem Tryc215 : CallOk Tryz.prog TryG 215 TryF215 := funX_ok Trymix (callsOk_cons Tryc207 (callsOk_cons Tryc290 (callsOk_cons Tryc370 (callsOk_cons Tryc371 callsOk_0)))) Tryz.func215 (by kernel_rfl)
def Trye238 : FuncId → Option Fun := fun f => match Nat.beq f 239 with | true => some TryF239 | false => match Nat.beq f 290 with | true => some TryF290 | false => match Nat.beq f 370 with | true => some TryF370 | false => match Nat.beq f 371 with | true => some TryF371 | false => none
def Tryp238 : Plans := fun id => none
def TryF238 : Fun := funX Tryz.prog TryG (fun _ => true) Trye238 Tryp238 lf Tryz.f238
theorem Tryc238 : CallOk Tryz.prog TryG 238 TryF238 := funX_ok Trymix (callsOk_cons Tryc239 (callsOk_cons Tryc290 (callsOk_cons Tryc370 (callsOk_cons Tryc371 callsOk_0)))) Tryz.func238 (by kernel_rfl)
def Trye556 : FuncId → Option Fun := fun f => none
def Tryp556 : Plans := fun id => none
def TryF556 : Fun := funX Tryz.prog TryG (fun _ => true) Trye556 Tryp556 lf Tryz.f556
theorem Tryc556 : CallOk Tryz.prog TryG 556 TryF556 := funX_ok Trymix callsOk_0 Tryz.func556 (by kernel_rfl)
def Trye456 : FuncId → Option Fun := fun f => match Nat.beq f 556 with | true => some TryF556 | false => none
def Tryp456 : Plans := fun id => none
def TryF456 : Fun := funX Tryz.prog TryG (fun _ => true) Trye456 Tryp456 lf Tryz.f456
theorem Tryc456 : CallOk Tryz.prog TryG 456 TryF456 := funX_ok Trymix (callsOk_cons Tryc556 callsOk_0) Tryz.func456 (by kernel_rfl)
def Trye312 : FuncId → Option Fun := fun f => match Nat.beq f 456 with | true => some TryF456 | false => none
def Tryp312 : Plans := fun id => none
def TryF312 : Fun := funX Tryz.prog TryG (fun _ => true) Trye312 Tryp312 lf Tryz.f312
theorem Tryc312 : CallOk Tryz.prog TryG 312 TryF312 := funX_ok Trymix (callsOk_cons Tryc456 callsOk_0) Tryz.func312 (by kernel_rfl)
def Trye175 : FuncId → Option Fun := fun f => match Nat.beq f 312 with | true => some TryF312 | false => none
def Tryp175 : Plans := fun id => none
def TryF175 : Fun := funX Tryz.prog TryG (fun _ => true) Trye175 Tryp175 lf Tryz.f175
theorem Tryc175 : CallOk Tryz.prog TryG 175 TryF175 := funX_ok Trymix (callsOk_cons Tryc312 callsOk_0) Tryz.func175 (by kernel_rfl)
def Trye115 : FuncId → Option Fun := fun f => match Nat.beq f 175 with | true => some TryF175 | false => none
def Tryp115 : Plans := fun id => none
def TryF115 : Fun := funX Tryz.prog TryG (fun _ => true) Trye115 Tryp115 lf Tryz.f115
theorem Tryc115 : CallOk Tryz.prog TryG 115 TryF115 := funX_ok Trymix (callsOk_cons Tryc175 callsOk_0) Tryz.func115 (by kernel_rfl)
def Trye604 : FuncId → Option Fun := fun f => none
def Tryp604 : Plans := fun id => match Nat.beq id 4 with | true => some ([0, 0, 3, 7, 15, 15, 63, 127, 15, 15, 527, 1807, 3855, 8191, 16383], [(0, .pure), (1, .pure), (2, .pure), (3, .pure), (4, .pure), (5, .pure), (6, .pure), (7, .read 0), (8, .pure), (9, .pure), (10, .pure), (11, .pure), (12, .read 0), (13, .heavy), (14, .pure)]) | false => match Nat.beq id 6 with | true => some ([0, 0, 0, 0, 8, 0, 0, 64, 224, 480, 0, 0, 3072, 7168, 16355, 32739, 65535, 131071], [(0, .pure), (1, .pure), (5, .pure), (6, .pure), (7, .pure), (8, .pure), (9, .read 0), (10, .pure), (11, .pure), (12, .pure), (13, .read 0), (14, .pure), (15, .heavy), (2, .pure), (3, .pure), (4, .pure), (16, .pure), (17, .heavy)]) | false => none
def TryF604 : Fun := funX Tryz.prog TryG (fun _ => true) Trye604 Tryp604 lf Tryz.f604
theorem Tryc604 : CallOk Tryz.prog TryG 604 TryF604 := funX_ok Trymix callsOk_0 Tryz.func604 (by kernel_rfl)
def Trye508 : FuncId → Option Fun := fun f => match Nat.beq f 604 with | true => some TryF604 | false => none
def Tryp508 : Plans := fun id => match Nat.beq id 17 with | true => some ([0, 1, 3, 7, 7, 23, 63, 127, 7, 7, 775, 1799, 4095, 8191, 16383], [(0, .pure), (1, .pure), (2, .pure), (3, .pure), (4, .pure), (5, .pure), (6, .pure), (7, .read 0), (8, .pure), (9, .pure), (10, .pure), (11, .read 0), (12, .heavy), (13, .pure), (14, .pure)]) | false => none
def TryF508 : Fun := funX Tryz.prog TryG (fun _ => true) Trye508 Tryp508 lf Tryz.f508
theorem Tryc508 : CallOk Tryz.prog TryG 508 TryF508 := funX_ok Trymix (callsOk_cons Tryc604 callsOk_0) Tryz.func508 (by kernel_rfl)
def Trye395 : FuncId → Option Fun := fun f => match Nat.beq f 449 with | true => some TryF449 | false => match Nat.beq f 508 with | true => some TryF508 | false => none
def Tryp395 : Plans := fun id => none
def TryF395 : Fun := funX Tryz.prog TryG (fun _ => true) Trye395 Tryp395 lf Tryz.f395
theorem Tryc395 : CallOk Tryz.prog TryG 395 TryF395 := funX_ok Trymix (callsOk_cons Tryc449 (callsOk_cons Tryc508 callsOk_0)) Tryz.func395 (by kernel_rfl)
def Trye237 : FuncId → Option Fun := fun f => match Nat.beq f 41 with | true => some TryF41 | false => match Nat.beq f 393 with | true => some TryF393 | false => match Nat.beq f 395 with | true => some TryF395 | false => match Nat.beq f 396 with | true => some TryF396 | false => none
def Tryp237 : Plans := fun id => none
def TryF237 : Fun := funX Tryz.prog TryG (fun _ => true) Trye237 Tryp237 lf Tryz.f237
theorem Tryc237 : CallOk Tryz.prog TryG 237 TryF237 := funX_ok Trymix (callsOk_cons Tryc41 (callsOk_cons Tryc393 (callsOk_cons Tryc395 (callsOk_cons Tryc396 callsOk_0)))) Tryz.func237 (by kernel_rfl)
def Trye614 : FuncId → Option Fun := fun f => none
def Tryp614 : Plans := fun id => match Nat.beq id 4 with | true => some ([0, 0, 2, 7, 0, 16, 63, 127], [(0, .pure), (1, .pure), (2, .pure), (3, .heavy), (4, .pure), (5, .pure), (6, .heavy), (7, .pure)]) | false => none
def TryF614 : Fun := funX Tryz.prog TryG (fun _ => true) Trye614 Tryp614 lf Tryz.f614
theorem Tryc614 : CallOk Tryz.prog TryG 614 TryF614 := funX_ok Trymix callsOk_0 Tryz.func614 (by kernel_rfl)
def Trye510 : FuncId → Option Fun := fun f => match Nat.beq f 216 with | true => some TryF216 | false => match Nat.beq f 614 with | true => some TryF614 | false => none
def Tryp510 : Plans := fun id => none
def TryF510 : Fun := funX Tryz.prog TryG (fun _ => true) Trye510 Tryp510 lf Tryz.f510
theorem Tryc510 : CallOk Tryz.prog TryG 510 TryF510 := funX_ok Trymix (callsOk_cons Tryc216 (callsOk_cons Tryc614 callsOk_0)) Tryz.func510 (by kernel_rfl)
def Trye400 : FuncId → Option Fun := fun f => match Nat.beq f 509 with | true => some TryF509 | false => match Nat.beq f 510 with | true => some TryF510 | false => none
def Tryp400 : Plans := fun id => match Nat.beq id 22 with | true => some ([0, 0, 1, 7], [(0, .pure), (1, .read 0), (2, .pure), (3, .heavy)]) | false => none
def Tryi400 : Iters := fun f => match Nat.beq f 613 with | true => some TryI613 | false => none
def TryF400 : Fun := funM Tryz.prog TryG (fun _ => true) Trye400 Tryi400 Tryp400 lf Tryz.f400
theorem Tryc400 : CallOk Tryz.prog TryG 400 TryF400 := funM_ok Trymix (callsOk_cons Tryc509 (callsOk_cons Tryc510 callsOk_0)) (itersOk_cons Tryj613 itersOk_0) Tryz.func400 (by kernel_rfl)
def Trye399 : FuncId → Option Fun := fun f => match Nat.beq f 400 with | true => some TryF400 | false => match Nat.beq f 401 with | true => some TryF401 | false => none
def Tryp399 : Plans := fun id => none
def TryF399 : Fun := funX Tryz.prog TryG (fun _ => true) Trye399 Tryp399 lf Tryz.f399
theorem Tryc399 : CallOk Tryz.prog TryG 399 TryF399 := funX_ok Trymix (callsOk_cons Tryc400 (callsOk_cons Tryc401 callsOk_0)) Tryz.func399 (by kernel_rfl)
def Trye241 : FuncId → Option Fun := fun f => match Nat.beq f 399 with | true => some TryF399 | false => none
def Tryp241 : Plans := fun id => none
def TryF241 : Fun := funX Tryz.prog TryG (fun _ => true) Trye241 Tryp241 lf Tryz.f241
theorem Tryc241 : CallOk Tryz.prog TryG 241 TryF241 := funX_ok Trymix (callsOk_cons Tryc399 callsOk_0) Tryz.func241 (by kernel_rfl)
def Trye122 : FuncId → Option Fun := fun f => match Nat.beq f 204 with | true => some TryF204 | false => match Nat.beq f 205 with | true => some TryF205 | false => match Nat.beq f 206 with | true => some TryF206 | false => match Nat.beq f 215 with | true => some TryF215 | false => match Nat.beq f 237 with | true => some TryF237 | false => match Nat.beq f 238 with | true => some TryF238 | false => match Nat.beq f 239 with | true => some TryF239 | false => match Nat.beq f 241 with | true => some TryF241 | false => match Nat.beq f 242 with | true => some TryF242 | false => none
def Tryp122 : Plans := fun id => match Nat.beq id 11 with | true => some ([0, 1, 3, 7, 15, 0, 32, 96, 224, 480, 1023, 2047], [(0, .pure), (1, .pure), (2, .pure), (3, .read 0), (4, .pure), (5, .pure), (6, .pure), (7, .pure), (8, .pure), (9, .read 0), (10, .pure), (11, .pure)]) | false => match Nat.beq id 12 with | true => some ([0, 1, 0, 4, 12, 28, 60, 0, 128, 384, 896, 2044, 4095, 8191], [(0, .pure), (1, .pure), (2, .pure), (3, .pure), (4, .pure), (5, .pure), (6, .read 0), (7, .pure), (8, .pure), (9, .pure), (10, .read 0), (11, .pure), (12, .pure), (13, .pure)]) | false => match Nat.beq id 19 with | true => some ([0, 1, 3, 7, 0, 0, 48, 0, 0, 0, 0, 0, 4095, 0, 16383], [(4, .pure), (5, .pure), (6, .heavy), (0, .pure), (1, .pure), (2, .pure), (3, .read 1), (7, .pure), (8, .pure), (9, .pure), (10, .pure), (11, .pure), (12, .pure), (13, .alloc), (14, .heavy)]) | false => match Nat.beq id 26 with | true => some ([0, 1, 0, 0, 12, 28, 63, 127, 255], [(2, .pure), (3, .pure), (4, .heavy), (0, .pure), (1, .read 1), (5, .alloc), (6, .heavy), (7, .pure), (8, .heavy)]) | false => match Nat.beq id 28 with | true => some ([0, 0, 2, 6, 14, 0, 32, 126, 255, 511, 1023], [(1, .pure), (2, .pure), (3, .pure), (4, .read 0), (5, .read 0), (6, .alloc), (7, .heavy), (0, .pure), (8, .pure), (9, .pure), (10, .heavy)]) | false => match Nat.beq id 30 with | true => some ([0, 1, 3, 7, 0, 0, 0, 112, 0, 0, 512, 1792, 0, 0, 8192, 0, 61440, 130816, 262128, 524287], [(4, .pure), (5, .pure), (6, .pure), (7, .heavy), (8, .pure), (9, .pure), (10, .read 1), (11, .pure), (12, .pure), (13, .pure), (14, .read 1), (15, .pure), (16, .pure), (17, .alloc), (18, .heavy), (0, .pure), (1, .pure), (2, .pure), (3, .read 2), (19, .heavy)]) | false => none
def TryF122 : Fun := funX Tryz.prog TryG (fun _ => true) Trye122 Tryp122 lf Tryz.f122
theorem Tryc122 : CallOk Tryz.prog TryG 122 TryF122 := funX_ok Trymix (callsOk_cons Tryc204 (callsOk_cons Tryc205 (callsOk_cons Tryc206 (callsOk_cons Tryc215 (callsOk_cons Tryc237 (callsOk_cons Tryc238 (callsOk_cons Tryc239 (callsOk_cons Tryc241 (callsOk_cons Tryc242 callsOk_0))))))))) Tryz.func122 (by kernel_rfl)
def Trye61 : FuncId → Option Fun := fun f => match Nat.beq f 104 with | true => some TryF104 | false => match Nat.beq f 114 with | true => some TryF114 | false => match Nat.beq f 115 with | true => some TryF115 | false => match Nat.beq f 119 with | true => some TryF119 | false => match Nat.beq f 122 with | true => some TryF122 | false => none
def Tryp61 : Plans := fun id => match Nat.beq id 27 with | true => some ([0, 1, 3, 7, 0, 16, 0, 0, 0, 0, 512, 1536, 3840, 7936, 16128, 32767, 65535, 131071, 131071, 524287], [(0, .pure), (1, .pure), (2, .pure), (3, .read 0), (4, .pure), (5, .alloc), (6, .pure), (7, .pure), (8, .pure), (9, .pure), (10, .pure), (11, .pure), (12, .pure), (13, .pure), (14, .read 0), (15, .heavy), (16, .pure), (17, .pure), (18, .pure), (19, .pure)]) | false => match Nat.beq id 30 with | true => some ([0, 1, 3, 7, 15, 0, 32, 103, 255, 511, 1023], [(0, .pure), (1, .read 0), (2, .heavy), (5, .pure), (6, .read 1), (7, .heavy), (3, .pure), (4, .pure), (8, .pure), (9, .pure), (10, .heavy)]) | false => none
def TryF61 : Fun := funX Tryz.prog TryG (fun _ => true) Trye61 Tryp61 lf Tryz.f61
theorem Tryc61 : CallOk Tryz.prog TryG 61 TryF61 := funX_ok Trymix (callsOk_cons Tryc104 (callsOk_cons Tryc114 (callsOk_cons Tryc115 (callsOk_cons Tryc119 (callsOk_cons Tryc122 callsOk_0))))) Tryz.func61 (by kernel_rfl)
def Trye158 : FuncId → Option Fun := fun f => match Nat.beq f 53 with | true => some TryF53 | false => match Nat.beq f 61 with | true => some TryF61 | false => none
def Tryp158 : Plans := fun id => none
def TryF158 : Fun := funX Tryz.prog TryG (fun _ => true) Trye158 Tryp158 lf Tryz.f158
theorem Tryc158 : CallOk Tryz.prog TryG 158 TryF158 := funX_ok Trymix (callsOk_cons Tryc53 (callsOk_cons Tryc61 callsOk_0)) Tryz.func158 (by kernel_rfl)
def Trye70 : FuncId → Option Fun := fun f => match Nat.beq f 16 with | true => some TryF16 | false => match Nat.beq f 88 with | true => some TryF88 | false => match Nat.beq f 98 with | true => some TryF98 | false => match Nat.beq f 157 with | true => some TryF157 | false => match Nat.beq f 158 with | true => some TryF158 | false => match Nat.beq f 159 with | true => some TryF159 | false => match Nat.beq f 160 with | true => some TryF160 | false => match Nat.beq f 161 with | true => some TryF161 | false => none
def Tryp70 : Plans := fun id => match Nat.beq id 16 with | true => some ([0, 1, 3, 0, 8, 24, 56, 0, 0, 256, 768, 2040, 4095], [(3, .pure), (4, .pure), (5, .pure), (6, .read 0), (7, .pure), (8, .pure), (9, .read 0), (10, .pure), (11, .heavy), (0, .pure), (1, .pure), (2, .pure), (12, .heavy)]) | false => match Nat.beq id 20 with | true => some ([0, 1, 3, 7, 0, 16, 48, 15, 255], [(0, .pure), (1, .pure), (2, .pure), (3, .heavy), (4, .pure), (5, .read 1), (6, .pure), (7, .pure), (8, .pure)]) | false => none
def TryF70 : Fun := funX Tryz.prog TryG (fun _ => true) Trye70 Tryp70 lf Tryz.f70
theorem Tryc70 : CallOk Tryz.prog TryG 70 TryF70 := funX_ok Trymix (callsOk_cons Tryc16 (callsOk_cons Tryc88 (callsOk_cons Tryc98 (callsOk_cons Tryc157 (callsOk_cons Tryc158 (callsOk_cons Tryc159 (callsOk_cons Tryc160 (callsOk_cons Tryc161 callsOk_0)))))))) Tryz.func70 (by kernel_rfl)
def Trye32 : FuncId → Option Fun := fun f => match Nat.beq f 69 with | true => some TryF69 | false => match Nat.beq f 70 with | true => some TryF70 | false => none
def Tryp32 : Plans := fun id => match Nat.beq id 5 with | true => some ([0, 1, 3, 7, 15, 31, 0, 64, 192, 448, 0, 1024, 3072, 7168, 0, 32767, 65535, 131071, 131071, 262143, 1048575], [(0, .pure), (1, .pure), (2, .read 0), (3, .pure), (4, .pure), (5, .read 0), (6, .pure), (7, .pure), (8, .pure), (9, .read 0), (10, .pure), (11, .pure), (12, .pure), (13, .read 0), (14, .read 0), (15, .heavy), (16, .pure), (17, .pure), (18, .pure), (19, .pure), (20, .pure)]) | false => none
def TryF32 : Fun := funX Tryz.prog TryG (fun _ => true) Trye32 Tryp32 lf Tryz.f32
theorem Tryc32 : CallOk Tryz.prog TryG 32 TryF32 := funX_ok Trymix (callsOk_cons Tryc69 (callsOk_cons Tryc70 callsOk_0)) Tryz.func32 (by kernel_rfl)
def Trye18 : FuncId → Option Fun := fun f => match Nat.beq f 27 with | true => some TryF27 | false => match Nat.beq f 28 with | true => some TryF28 | false => match Nat.beq f 29 with | true => some TryF29 | false => match Nat.beq f 30 with | true => some TryF30 | false => match Nat.beq f 31 with | true => some TryF31 | false => match Nat.beq f 32 with | true => some TryF32 | false => none
def Tryp18 : Plans := fun id => match Nat.beq id 4 with | true => some ([0, 0, 0, 4, 12, 28, 62, 126, 254, 510, 1022, 2047, 4095], [(1, .heavy), (2, .pure), (3, .pure), (4, .pure), (5, .read 1), (6, .heavy), (7, .heavy), (8, .heavy), (0, .pure), (9, .pure), (10, .alloc), (11, .pure), (12, .heavy)]) | false => none
def TryF18 : Fun := funX Tryz.prog TryG (fun _ => true) Trye18 Tryp18 lf Tryz.f18
theorem Tryc18 : CallOk Tryz.prog TryG 18 TryF18 := funX_ok Trymix (callsOk_cons Tryc27 (callsOk_cons Tryc28 (callsOk_cons Tryc29 (callsOk_cons Tryc30 (callsOk_cons Tryc31 (callsOk_cons Tryc32 callsOk_0)))))) Tryz.func18 (by kernel_rfl)
def Trye9 : FuncId → Option Fun := fun f => match Nat.beq f 16 with | true => some TryF16 | false => match Nat.beq f 17 with | true => some TryF17 | false => match Nat.beq f 18 with | true => some TryF18 | false => none
def Tryp9 : Plans := fun id => match Nat.beq id 8 with | true => some ([0, 1, 0, 0, 12, 31, 63], [(2, .pure), (3, .read 0), (4, .heavy), (0, .pure), (1, .read 1), (5, .heavy), (6, .pure)]) | false => match Nat.beq id 10 with | true => some ([0, 1, 0, 4, 12, 28, 60, 127], [(0, .pure), (1, .read 0), (2, .pure), (3, .pure), (4, .pure), (5, .read 0), (6, .pure), (7, .pure)]) | false => match Nat.beq id 12 with | true => some ([0, 1, 3, 7, 0, 16, 48, 127, 255, 511, 1023], [(0, .pure), (1, .pure), (2, .pure), (3, .read 0), (4, .pure), (5, .read 0), (6, .pure), (7, .pure), (8, .pure), (9, .pure), (10, .heavy)]) | false => match Nat.beq id 14 with | true => some ([0, 1, 3, 7, 0, 16, 48, 112, 0, 256, 768, 1792, 0, 4096, 16383, 32767, 65535], [(0, .pure), (1, .pure), (2, .pure), (3, .read 0), (4, .pure), (5, .pure), (6, .pure), (7, .read 0), (8, .pure), (9, .pure), (10, .pure), (11, .read 0), (12, .pure), (13, .read 0), (14, .heavy), (15, .heavy), (16, .pure)]) | false => none
def TryF9 : Fun := funX Tryz.prog TryG (fun _ => true) Trye9 Tryp9 lf Tryz.f9
theorem Tryc9 : CallOk Tryz.prog TryG 9 TryF9 := funX_ok Trymix (callsOk_cons Tryc16 (callsOk_cons Tryc17 (callsOk_cons Tryc18 callsOk_0))) Tryz.func9 (by kernel_rfl)
def Trye5 : FuncId → Option Fun := fun f => match Nat.beq f 6 with | true => some TryF6 | false => match Nat.beq f 7 with | true => some TryF7 | false => match Nat.beq f 8 with | true => some TryF8 | false => match Nat.beq f 9 with | true => some TryF9 | false => none
def Tryp5 : Plans := fun id => none
def TryF5 : Fun := funX Tryz.prog TryG (fun _ => true) Trye5 Tryp5 lf Tryz.f5
theorem Tryc5 : CallOk Tryz.prog TryG 5 TryF5 := funX_ok Trymix (callsOk_cons Tryc6 (callsOk_cons Tryc7 (callsOk_cons Tryc8 (callsOk_cons Tryc9 callsOk_0)))) Tryz.func5 (by kernel_rfl)
end Go.Proofs.ImT
