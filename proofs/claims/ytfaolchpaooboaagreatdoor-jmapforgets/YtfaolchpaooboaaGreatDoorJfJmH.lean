/- Part of the value machine, or of a walk by it: lemmas that the claim's last text uses. No conditions. -/
import Derived.Test.YtfaolchpaooboaaGreatDoorJfJmD
import Derived.Test.YtfaolchpaooboaaGreatDoorJfJmG
import Derived.Test.YtfaolchpaooboaaGreatDoorJfVmI
import Derived.Test.YtfaolchpaooboaaGreatDoorJfVmT
set_option linter.unusedVariables false
set_option linter.unusedSimpArgs false
set_option linter.unnecessarySimpa false
noncomputable section
namespace Go.Proofs.Jm
open Go Go.Proofs Go.Vm
set_option linter.unusedVariables false
set_option linter.unusedSimpArgs false
set_option maxRecDepth 100000
set_option maxHeartbeats 4000000
def Tryp27 : Plans := fun id => match Nat.beq id 6 with | true => some ([0, 1, 0, 7, 15, 0, 32, 0, 224, 480, 1023], [(0, .pure), (1, .read 0), (2, .pure), (3, .pure), (4, .read 0), (5, .pure), (6, .read 0), (7, .pure), (8, .pure), (9, .read 0), (10, .pure)]) | false => match Nat.beq id 11 with | true => some ([0, 1, 0, 7, 15, 0, 32, 0, 224, 480, 1023, 2047], [(0, .pure), (1, .read 0), (2, .pure), (3, .pure), (4, .read 0), (5, .pure), (6, .read 0), (7, .pure), (8, .pure), (9, .read 0), (10, .heavy), (11, .pure)]) | false => none
def Trys27 (e : FuncId → Option Fun) : FuncId → Option Fun := fun f => match Nat.beq f 27 with | true => some (funX Tryz.prog TryG (fun _ => true) (fun f => e f) Tryp27 lf Tryz.f27) | false => none
theorem Tryso27 (e : FuncId → Option Fun) (he : ∀ f F, e f = some F → CallOk Tryz.prog TryG f F) : ∀ f F, Trys27 e f = some F → CallOk Tryz.prog TryG f F := callsOk_cons (funX_ok Trymix he Tryz.func27 (by kernel_rfl)) (callsOk_0)
def TryF27 : Fun := pickF (levels (fun _ => none) Trys27 40) 27
theorem Tryc27 : CallOk Tryz.prog TryG 27 TryF27 := pickF_ok (levels_ok callsOk_0 Tryso27 40) 27
def Trye6 : FuncId → Option Fun := fun f => none
def Tryp6 : Plans := fun id => none
def TryF6 : Fun := funX Tryz.prog TryG (fun _ => true) Trye6 Tryp6 lf Tryz.f6
theorem Tryc6 : CallOk Tryz.prog TryG 6 TryF6 := funX_ok Trymix callsOk_0 Tryz.func6 (by kernel_rfl)
def Trye8 : FuncId → Option Fun := fun f => none
def Tryp8 : Plans := fun id => match Nat.beq id 5 with | true => some ([0, 1, 0, 0, 12, 28, 60, 124, 255, 511, 1023], [(0, .pure), (1, .read 0), (2, .pure), (3, .pure), (4, .pure), (5, .pure), (6, .read 0), (7, .alloc), (8, .heavy), (9, .pure), (10, .heavy)]) | false => match Nat.beq id 6 with | true => some ([0, 1, 0, 0, 8, 28, 60, 124, 255, 511, 1023], [(0, .pure), (1, .read 0), (2, .pure), (3, .pure), (4, .pure), (5, .pure), (6, .read 0), (7, .alloc), (8, .heavy), (9, .pure), (10, .heavy)]) | false => none
def TryF8 : Fun := funX Tryz.prog TryG (fun _ => true) Trye8 Tryp8 lf Tryz.f8
theorem Tryc8 : CallOk Tryz.prog TryG 8 TryF8 := funX_ok Trymix callsOk_0 Tryz.func8 (by kernel_rfl)
def Trye10 : FuncId → Option Fun := fun f => none
def Tryp10 : Plans := fun id => none
def TryF10 : Fun := funX Tryz.prog TryG (fun _ => true) Trye10 Tryp10 lf Tryz.f10
theorem Tryc10 : CallOk Tryz.prog TryG 10 TryF10 := funX_ok Trymix callsOk_0 Tryz.func10 (by kernel_rfl)
def Trye19 : FuncId → Option Fun := fun f => none
def Tryp19 : Plans := fun id => none
def TryF19 : Fun := funX Tryz.prog TryG (fun _ => true) Trye19 Tryp19 lf Tryz.f19
theorem Tryc19 : CallOk Tryz.prog TryG 19 TryF19 := funX_ok Trymix callsOk_0 Tryz.func19 (by kernel_rfl)
def Trye21 : FuncId → Option Fun := fun f => none
def Tryp21 : Plans := fun id => none
def TryF21 : Fun := funX Tryz.prog TryG (fun _ => true) Trye21 Tryp21 lf Tryz.f21
theorem Tryc21 : CallOk Tryz.prog TryG 21 TryF21 := funX_ok Trymix callsOk_0 Tryz.func21 (by kernel_rfl)
def Trye17 : FuncId → Option Fun := fun f => none
def Tryp17 : Plans := fun id => none
def TryF17 : Fun := funX Tryz.prog TryG (fun _ => true) Trye17 Tryp17 lf Tryz.f17
theorem Tryc17 : CallOk Tryz.prog TryG 17 TryF17 := funX_ok Trymix callsOk_0 Tryz.func17 (by kernel_rfl)
def Trye9 : FuncId → Option Fun := fun f => match Nat.beq f 17 with | true => some TryF17 | false => none
def Tryp9 : Plans := fun id => none
def TryF9 : Fun := funX Tryz.prog TryG (fun _ => true) Trye9 Tryp9 lf Tryz.f9
theorem Tryc9 : CallOk Tryz.prog TryG 9 TryF9 := funX_ok Trymix (callsOk_cons Tryc17 callsOk_0) Tryz.func9 (by kernel_rfl)
def Trye13 : FuncId → Option Fun := fun f => match Nat.beq f 17 with | true => some TryF17 | false => none
def Tryp13 : Plans := fun id => none
def TryF13 : Fun := funX Tryz.prog TryG (fun _ => true) Trye13 Tryp13 lf Tryz.f13
theorem Tryc13 : CallOk Tryz.prog TryG 13 TryF13 := funX_ok Trymix (callsOk_cons Tryc17 callsOk_0) Tryz.func13 (by kernel_rfl)
def Trye26 : FuncId → Option Fun := fun f => none
def Tryp26 : Plans := fun id => none
def TryF26 : Fun := funX Tryz.prog TryG (fun _ => true) Trye26 Tryp26 lf Tryz.f26
theorem Tryc26 : CallOk Tryz.prog TryG 26 TryF26 := funX_ok Trymix callsOk_0 Tryz.func26 (by kernel_rfl)
def Trye30 : FuncId → Option Fun := fun f => none
def Tryp30 : Plans := fun id => none
def TryF30 : Fun := funX Tryz.prog TryG (fun _ => true) Trye30 Tryp30 lf Tryz.f30
theorem Tryc30 : CallOk Tryz.prog TryG 30 TryF30 := funX_ok Trymix callsOk_0 Tryz.func30 (by kernel_rfl)
def Trye32 : FuncId → Option Fun := fun f => none
def Tryp32 : Plans := fun id => none
def TryF32 : Fun := funX Tryz.prog TryG (fun _ => true) Trye32 Tryp32 lf Tryz.f32
theorem Tryc32 : CallOk Tryz.prog TryG 32 TryF32 := funX_ok Trymix callsOk_0 Tryz.func32 (by kernel_rfl)
def Trye20 : FuncId → Option Fun := fun f => match Nat.beq f 32 with | true => some TryF32 | false => none
def Tryp20 : Plans := fun id => none
def TryF20 : Fun := funX Tryz.prog TryG (fun _ => true) Trye20 Tryp20 lf Tryz.f20
theorem Tryc20 : CallOk Tryz.prog TryG 20 TryF20 := funX_ok Trymix (callsOk_cons Tryc32 callsOk_0) Tryz.func20 (by kernel_rfl)
def TryF48 : Fun := fastF blanks7S JmF48
theorem Tryc48 : CallOk Tryz.prog TryG 48 TryF48 := blanks7_fast Jmc48
def Trye53 : FuncId → Option Fun := fun f => none
def Tryp53 : Plans := fun id => none
def TryF53 : Fun := funX Tryz.prog TryG (fun _ => true) Trye53 Tryp53 lf Tryz.f53
theorem Tryc53 : CallOk Tryz.prog TryG 53 TryF53 := funX_ok Trymix callsOk_0 Tryz.func53 (by kernel_rfl)
def Trye58 : FuncId → Option Fun := fun f => none
def Tryp58 : Plans := fun id => none
def TryF58 : Fun := funX Tryz.prog TryG (fun _ => true) Trye58 Tryp58 lf Tryz.f58
theorem Tryc58 : CallOk Tryz.prog TryG 58 TryF58 := funX_ok Trymix callsOk_0 Tryz.func58 (by kernel_rfl)
def TryF60 : Fun := atomLoad .i64
theorem Tryc60 : CallOk Tryz.prog TryG 60 TryF60 := atomLoad_ok Tryz.func60 (by kernel_rfl) (by kernel_rfl) (by kernel_rfl) .i64 (by kernel_rfl)
def Trye28 : FuncId → Option Fun := fun f => match Nat.beq f 60 with | true => some TryF60 | false => none
def Tryp28 : Plans := fun id => none
def TryF28 : Fun := funX Tryz.prog TryG (fun _ => true) Trye28 Tryp28 lf Tryz.f28
theorem Tryc28 : CallOk Tryz.prog TryG 28 TryF28 := funX_ok Trymix (callsOk_cons Tryc60 callsOk_0) Tryz.func28 (by kernel_rfl)
def TryF62 : Fun := atomStore
theorem Tryc62 : CallOk Tryz.prog TryG 62 TryF62 := atomStore_ok Tryz.func62 (by kernel_rfl) (by kernel_rfl) (by kernel_rfl) (by kernel_rfl)
def Trye31 : FuncId → Option Fun := fun f => match Nat.beq f 62 with | true => some TryF62 | false => none
def Tryp31 : Plans := fun id => none
def TryF31 : Fun := funX Tryz.prog TryG (fun _ => true) Trye31 Tryp31 lf Tryz.f31
theorem Tryc31 : CallOk Tryz.prog TryG 31 TryF31 := funX_ok Trymix (callsOk_cons Tryc62 callsOk_0) Tryz.func31 (by kernel_rfl)
def Trye138 : FuncId → Option Fun := fun f => none
def Tryp138 : Plans := fun id => none
def TryF138 : Fun := funX Tryz.prog TryG (fun _ => true) Trye138 Tryp138 lf Tryz.f138
theorem Tryc138 : CallOk Tryz.prog TryG 138 TryF138 := funX_ok Trymix callsOk_0 Tryz.func138 (by kernel_rfl)
def Trye143 : FuncId → Option Fun := fun f => none
def Tryp143 : Plans := fun id => match Nat.beq id 1 with | true => some ([0, 1, 3, 7, 15, 0, 32, 96, 224, 480, 1023, 2047], [(0, .pure), (1, .pure), (2, .pure), (3, .read 0), (4, .heavy), (5, .pure), (6, .pure), (7, .pure), (8, .read 1), (9, .pure), (10, .heavy), (11, .pure)]) | false => none
def TryF143 : Fun := funX Tryz.prog TryG (fun _ => true) Trye143 Tryp143 lf Tryz.f143
theorem Tryc143 : CallOk Tryz.prog TryG 143 TryF143 := funX_ok Trymix callsOk_0 Tryz.func143 (by kernel_rfl)
def Trye134 : FuncId → Option Fun := fun f => none
def Tryp134 : Plans := fun id => match Nat.beq id 5 with | true => some ([0, 1, 0, 0, 12, 28, 60, 124, 255, 511, 1023], [(0, .pure), (1, .read 0), (2, .pure), (3, .pure), (4, .pure), (5, .pure), (6, .read 0), (7, .alloc), (8, .heavy), (9, .pure), (10, .heavy)]) | false => match Nat.beq id 6 with | true => some ([0, 1, 0, 0, 8, 28, 60, 124, 255, 511, 1023], [(0, .pure), (1, .read 0), (2, .pure), (3, .pure), (4, .pure), (5, .pure), (6, .read 0), (7, .alloc), (8, .heavy), (9, .pure), (10, .heavy)]) | false => none
def TryF134 : Fun := funX Tryz.prog TryG (fun _ => true) Trye134 Tryp134 lf Tryz.f134
theorem Tryc134 : CallOk Tryz.prog TryG 134 TryF134 := funX_ok Trymix callsOk_0 Tryz.func134 (by kernel_rfl)
def Trye135 : FuncId → Option Fun := fun f => none
def Tryp135 : Plans := fun id => none
def TryF135 : Fun := funX Tryz.prog TryG (fun _ => true) Trye135 Tryp135 lf Tryz.f135
theorem Tryc135 : CallOk Tryz.prog TryG 135 TryF135 := funX_ok Trymix callsOk_0 Tryz.func135 (by kernel_rfl)
def Trye144 : FuncId → Option Fun := fun f => none
def Tryp144 : Plans := fun id => none
def TryF144 : Fun := funX Tryz.prog TryG (fun _ => true) Trye144 Tryp144 lf Tryz.f144
theorem Tryc144 : CallOk Tryz.prog TryG 144 TryF144 := funX_ok Trymix callsOk_0 Tryz.func144 (by kernel_rfl)
def Trye55 : FuncId → Option Fun := fun f => match Nat.beq f 134 with | true => some TryF134 | false => match Nat.beq f 135 with | true => some TryF135 | false => match Nat.beq f 144 with | true => some TryF144 | false => none
def Tryp55 : Plans := fun id => match Nat.beq id 5 with | true => some ([0, 1, 0, 4, 12, 0, 32, 0, 128, 412, 1020, 2044, 4092, 8191, 16383, 32767], [(2, .pure), (3, .read 0), (4, .heavy), (7, .pure), (8, .read 1), (9, .heavy), (5, .pure), (6, .read 2), (10, .alloc), (11, .heavy), (0, .pure), (1, .read 3), (12, .alloc), (13, .heavy), (14, .pure), (15, .heavy)]) | false => match Nat.beq id 7 with | true => some ([0, 0, 1, 5, 15, 31, 63], [(0, .heavy), (2, .heavy), (3, .heavy), (1, .read 3), (4, .alloc), (5, .heavy), (6, .heavy)]) | false => none
def TryF55 : Fun := funX Tryz.prog TryG (fun _ => true) Trye55 Tryp55 lf Tryz.f55
theorem Tryc55 : CallOk Tryz.prog TryG 55 TryF55 := funX_ok Trymix (callsOk_cons Tryc134 (callsOk_cons Tryc135 (callsOk_cons Tryc144 callsOk_0))) Tryz.func55 (by kernel_rfl)
def Trye274 : FuncId → Option Fun := fun f => match Nat.beq f 144 with | true => some TryF144 | false => none
def Tryp274 : Plans := fun id => match Nat.beq id 5 with | true => some ([0, 1, 0, 0, 12, 28, 63, 127, 255], [(2, .pure), (3, .pure), (4, .heavy), (0, .pure), (1, .read 1), (5, .alloc), (6, .heavy), (7, .pure), (8, .heavy)]) | false => none
def TryF274 : Fun := funX Tryz.prog TryG (fun _ => true) Trye274 Tryp274 lf Tryz.f274
theorem Tryc274 : CallOk Tryz.prog TryG 274 TryF274 := funX_ok Trymix (callsOk_cons Tryc144 callsOk_0) Tryz.func274 (by kernel_rfl)
def Trye179 : FuncId → Option Fun := fun f => none
def Tryp179 : Plans := fun id => none
def TryF179 : Fun := funX Tryz.prog TryG (fun _ => true) Trye179 Tryp179 lf Tryz.f179
theorem Tryc179 : CallOk Tryz.prog TryG 179 TryF179 := funX_ok Trymix callsOk_0 Tryz.func179 (by kernel_rfl)
def Trye101 : FuncId → Option Fun := fun f => match Nat.beq f 179 with | true => some TryF179 | false => none
def Tryp101 : Plans := fun id => none
def TryF101 : Fun := funX Tryz.prog TryG (fun _ => true) Trye101 Tryp101 lf Tryz.f101
theorem Tryc101 : CallOk Tryz.prog TryG 101 TryF101 := funX_ok Trymix (callsOk_cons Tryc179 callsOk_0) Tryz.func101 (by kernel_rfl)
def TryF186 : Fun := fastF isS7 JmF186
theorem Tryc186 : CallOk Tryz.prog TryG 186 TryF186 := is_fast Jmc186
def Trye122 : FuncId → Option Fun := fun f => match Nat.beq f 186 with | true => some TryF186 | false => none
def Tryp122 : Plans := fun id => none
def TryF122 : Fun := funX Tryz.prog TryG (fun _ => true) Trye122 Tryp122 lf Tryz.f122
theorem Tryc122 : CallOk Tryz.prog TryG 122 TryF122 := funX_ok Trymix (callsOk_cons Tryc186 callsOk_0) Tryz.func122 (by kernel_rfl)
def Trye125 : FuncId → Option Fun := fun f => match Nat.beq f 186 with | true => some TryF186 | false => none
def Tryp125 : Plans := fun id => match Nat.beq id 4 with | true => some ([0, 1, 3, 7, 0, 16, 48, 112, 240, 511, 1023, 2047, 4095, 8191, 16383, 2047, 34815, 100351, 231423, 524287, 1048575, 2097151, 4194303, 8388607, 16777215, 33554431, 67108863, 8388607, 142606335, 411041791, 947912703, 2147483647, 4294967295, 8589934591], [(0, .pure), (1, .pure), (2, .pure), (3, .read 0), (4, .pure), (5, .pure), (6, .pure), (7, .read 0), (8, .pure), (9, .pure), (10, .pure), (11, .pure), (12, .pure), (13, .pure), (14, .read 0), (15, .pure), (16, .pure), (17, .pure), (18, .read 0), (19, .pure), (20, .pure), (21, .pure), (22, .pure), (23, .pure), (24, .pure), (25, .pure), (26, .read 0), (27, .pure), (28, .pure), (29, .pure), (30, .read 0), (31, .pure), (32, .pure), (33, .pure)]) | false => match Nat.beq id 6 with | true => some ([0, 1, 0, 4, 12, 28, 0, 64, 192, 448, 1020, 2044, 4092, 8191, 16383], [(0, .pure), (1, .pure), (2, .pure), (3, .pure), (4, .pure), (5, .read 0), (6, .pure), (7, .pure), (8, .pure), (9, .read 0), (10, .pure), (11, .pure), (12, .pure), (13, .pure), (14, .pure)]) | false => match Nat.beq id 9 with | true => some ([0, 1, 3, 7, 15, 31, 63, 127, 255, 511, 63, 2047, 4095, 8191, 16383, 32767, 65535, 131071, 262143, 524287, 1048575, 2097151, 4194303, 8388607, 16777215, 33554431, 67108863, 134217727, 268435455, 536870911, 1073741823, 134217727, 2281701375, 6576668671, 15166603263, 32346472447, 68719476735, 137438953471, 274877906943, 549755813887, 1099511627775, 2199023255551, 274877906943, 4672924418047, 13469017440255, 31061203484671, 70368744177663, 140737488355327, 281474976710655, 562949953421311, 1125899906842623, 2251799813685247, 4503599627370495, 562949953421311, 9570149208162303, 27584547717644287, 63613344736608255, 144115188075855871, 288230376151711743, 576460752303423487, 1152921504606846975, 2305843009213693951, 4611686018427387903, 9223372036854775807, 18446744073709551615, 2305843009213693951, 39199331156632797183, 112986307451471003647, 260560260041147416575, 590295810358705651711, 1180591620717411303423, 2361183241434822606847, 4722366482869645213695, 9444732965739290427391], [(0, .pure), (1, .pure), (2, .pure), (3, .pure), (4, .pure), (5, .pure), (6, .pure), (7, .pure), (8, .pure), (9, .read 0), (10, .pure), (11, .pure), (12, .pure), (13, .pure), (14, .pure), (15, .pure), (16, .pure), (17, .pure), (18, .pure), (19, .pure), (20, .pure), (21, .pure), (22, .pure), (23, .pure), (24, .pure), (25, .pure), (26, .pure), (27, .pure), (28, .pure), (29, .pure), (30, .read 0), (31, .pure), (32, .pure), (33, .pure), (34, .read 0), (35, .pure), (36, .pure), (37, .pure), (38, .pure), (39, .pure), (40, .pure), (41, .read 0), (42, .pure), (43, .pure), (44, .pure), (45, .read 0), (46, .pure), (47, .pure), (48, .pure), (49, .pure), (50, .pure), (51, .pure), (52, .read 0), (53, .pure), (54, .pure), (55, .pure), (56, .read 0), (57, .pure), (58, .pure), (59, .pure), (60, .pure), (61, .pure), (62, .pure), (63, .pure), (64, .read 0), (65, .pure), (66, .pure), (67, .pure), (68, .read 0), (69, .pure), (70, .pure), (71, .pure), (72, .pure), (73, .pure)]) | false => none
def TryF125 : Fun := funX Tryz.prog TryG (fun _ => true) Trye125 Tryp125 lf Tryz.f125
theorem Tryc125 : CallOk Tryz.prog TryG 125 TryF125 := funX_ok Trymix (callsOk_cons Tryc186 callsOk_0) Tryz.func125 (by kernel_rfl)
def TryF189 : Fun := recF
theorem Tryb189 : DCallOk Tryz.prog TryG 189 TryF189 := by
  refine recF_ok (s := 3) (t := 4) Tryz.func189 (by kernel_rfl) rfl rfl rfl (fun _ _ => rfl) rfl rfl (fun ρ w hc h => ?_) (of_decide_eq_true (by kernel_rfl)) (of_decide_eq_true (by kernel_rfl)) rfl
  have h2 := hc .nilIface
  simp only [execOp, h, h2]
  simp [eqGuard, binOp]
  rw [show (Op.equal 20 Value.nilIface Value.nilIface).run Tryz.prog w = .ok true w by rfl]
  rfl
def TryF190 : Fun := fastF blanksS JmF190
theorem Tryc190 : CallOk Tryz.prog TryG 190 TryF190 := blanks_fast Jmc190
def Trye197 : FuncId → Option Fun := fun f => none
def Tryp197 : Plans := fun id => none
def TryF197 : Fun := funX Tryz.prog TryG (fun _ => true) Trye197 Tryp197 lf Tryz.f197
theorem Tryc197 : CallOk Tryz.prog TryG 197 TryF197 := funX_ok Trymix callsOk_0 Tryz.func197 (by kernel_rfl)
def Trye137 : FuncId → Option Fun := fun f => match Nat.beq f 197 with | true => some TryF197 | false => none
def Tryp137 : Plans := fun id => none
def TryF137 : Fun := funX Tryz.prog TryG (fun _ => true) Trye137 Tryp137 lf Tryz.f137
theorem Tryc137 : CallOk Tryz.prog TryG 137 TryF137 := funX_ok Trymix (callsOk_cons Tryc197 callsOk_0) Tryz.func137 (by kernel_rfl)
def Trye199 : FuncId → Option Fun := fun f => none
def Tryp199 : Plans := fun id => none
def TryF199 : Fun := funX Tryz.prog TryG (fun _ => true) Trye199 Tryp199 lf Tryz.f199
theorem Tryc199 : CallOk Tryz.prog TryG 199 TryF199 := funX_ok Trymix callsOk_0 Tryz.func199 (by kernel_rfl)
def Trye139 : FuncId → Option Fun := fun f => match Nat.beq f 199 with | true => some TryF199 | false => none
def Tryp139 : Plans := fun id => none
def TryF139 : Fun := funX Tryz.prog TryG (fun _ => true) Trye139 Tryp139 lf Tryz.f139
theorem Tryc139 : CallOk Tryz.prog TryG 139 TryF139 := funX_ok Trymix (callsOk_cons Tryc199 callsOk_0) Tryz.func139 (by kernel_rfl)
def Trye52 : FuncId → Option Fun := fun f => match Nat.beq f 28 with | true => some TryF28 | false => match Nat.beq f 31 with | true => some TryF31 | false => match Nat.beq f 137 with | true => some TryF137 | false => match Nat.beq f 138 with | true => some TryF138 | false => match Nat.beq f 139 with | true => some TryF139 | false => none
def Tryp52 : Plans := fun id => match Nat.beq id 3 with | true => some ([0, 1, 3, 7, 0, 16, 0, 112, 0, 256, 768, 1792, 4080, 0, 8192, 24576, 57344, 0, 131072, 393216, 917504, 0, 2097152, 6291456, 14680064, 33554431, 67108863, 134217727], [(4, .pure), (5, .heavy), (6, .pure), (7, .heavy), (8, .pure), (9, .pure), (10, .pure), (11, .read 2), (12, .heavy), (0, .pure), (1, .pure), (2, .pure), (3, .read 3), (13, .pure), (14, .pure), (15, .pure), (16, .read 3), (17, .pure), (18, .pure), (19, .pure), (20, .read 3), (21, .pure), (22, .pure), (23, .pure), (24, .read 3), (25, .pure), (26, .alloc), (27, .pure)]) | false => match Nat.beq id 4 with | true => some ([0, 1, 3, 0, 8, 24, 56, 127], [(3, .pure), (4, .pure), (5, .pure), (6, .heavy), (0, .pure), (1, .pure), (2, .pure), (7, .heavy)]) | false => none
def TryF52 : Fun := funX Tryz.prog TryG (fun _ => true) Trye52 Tryp52 lf Tryz.f52
theorem Tryc52 : CallOk Tryz.prog TryG 52 TryF52 := funX_ok Trymix (callsOk_cons Tryc28 (callsOk_cons Tryc31 (callsOk_cons Tryc137 (callsOk_cons Tryc138 (callsOk_cons Tryc139 callsOk_0))))) Tryz.func52 (by kernel_rfl)
def Trye205 : FuncId → Option Fun := fun f => none
def Tryp205 : Plans := fun id => none
def TryF205 : Fun := funX Tryz.prog TryG (fun _ => true) Trye205 Tryp205 lf Tryz.f205
theorem Tryc205 : CallOk Tryz.prog TryG 205 TryF205 := funX_ok Trymix callsOk_0 Tryz.func205 (by kernel_rfl)
def Trye142 : FuncId → Option Fun := fun f => match Nat.beq f 205 with | true => some TryF205 | false => none
def Tryp142 : Plans := fun id => none
def TryF142 : Fun := funX Tryz.prog TryG (fun _ => true) Trye142 Tryp142 lf Tryz.f142
theorem Tryc142 : CallOk Tryz.prog TryG 142 TryF142 := funX_ok Trymix (callsOk_cons Tryc205 callsOk_0) Tryz.func142 (by kernel_rfl)
def Trye211 : FuncId → Option Fun := fun f => none
def Tryp211 : Plans := fun id => none
def TryF211 : Fun := funX Tryz.prog TryG (fun _ => true) Trye211 Tryp211 lf Tryz.f211
theorem Tryc211 : CallOk Tryz.prog TryG 211 TryF211 := funX_ok Trymix callsOk_0 Tryz.func211 (by kernel_rfl)
def Trye15 : FuncId → Option Fun := fun f => none
def Tryp15 : Plans := fun id => match Nat.beq id 3 with | true => some ([0, 1, 3, 0, 8, 24, 56, 120, 248, 511, 1023], [(0, .pure), (1, .pure), (2, .heavy), (3, .pure), (4, .pure), (5, .pure), (6, .pure), (7, .alloc), (8, .own 7), (9, .pure), (10, .pure)]) | false => none
def TryF15 : Fun := funX Tryz.prog TryG (fun _ => true) Trye15 Tryp15 lf Tryz.f15
theorem Tryc15 : CallOk Tryz.prog TryG 15 TryF15 := funX_ok Trymix callsOk_0 Tryz.func15 (by kernel_rfl)
def TryF222 : Fun := fastF quoteS JmF222
theorem Tryc222 : CallOk Tryz.prog TryG 222 TryF222 := quote_fast Jmc222
def Tryp149 : Plans := fun id => none
def Trys149 (e : FuncId → Option Fun) : FuncId → Option Fun := fun f => match Nat.beq f 149 with | true => some (funX Tryz.prog TryG (fun _ => true) (fun f => match Nat.beq f 15 with | true => some TryF15 | false => match Nat.beq f 222 with | true => some TryF222 | false => e f) Tryp149 lf Tryz.f149) | false => none
theorem Tryso149 (e : FuncId → Option Fun) (he : ∀ f F, e f = some F → CallOk Tryz.prog TryG f F) : ∀ f F, Trys149 e f = some F → CallOk Tryz.prog TryG f F := callsOk_cons (funX_ok Trymix (callsOk_cons Tryc15 (callsOk_cons Tryc222 he)) Tryz.func149 (by kernel_rfl)) (callsOk_0)
def TryF149 : Fun := pickF (levels (fun _ => none) Trys149 40) 149
theorem Tryc149 : CallOk Tryz.prog TryG 149 TryF149 := pickF_ok (levels_ok callsOk_0 Tryso149 40) 149
def TryF223 : Fun := idxF
theorem Tryc223 : CallOk Tryz.prog TryG 223 TryF223 := idxF_ok Tryz.func223 (by kernel_rfl) (by kernel_rfl) (by kernel_rfl) (by kernel_rfl)
def Trye150 : FuncId → Option Fun := fun f => match Nat.beq f 223 with | true => some TryF223 | false => none
def Tryp150 : Plans := fun id => none
def TryF150 : Fun := funX Tryz.prog TryG (fun _ => true) Trye150 Tryp150 lf Tryz.f150
theorem Tryc150 : CallOk Tryz.prog TryG 150 TryF150 := funX_ok Trymix (callsOk_cons Tryc223 callsOk_0) Tryz.func150 (by kernel_rfl)
def Trye61 : FuncId → Option Fun := fun f => match Nat.beq f 150 with | true => some TryF150 | false => none
def Tryp61 : Plans := fun id => none
def TryF61 : Fun := funX Tryz.prog TryG (fun _ => true) Trye61 Tryp61 lf Tryz.f61
theorem Tryc61 : CallOk Tryz.prog TryG 61 TryF61 := funX_ok Trymix (callsOk_cons Tryc150 callsOk_0) Tryz.func61 (by kernel_rfl)
def Trye29 : FuncId → Option Fun := fun f => match Nat.beq f 61 with | true => some TryF61 | false => none
def Tryp29 : Plans := fun id => none
def TryF29 : Fun := funX Tryz.prog TryG (fun _ => true) Trye29 Tryp29 lf Tryz.f29
theorem Tryc29 : CallOk Tryz.prog TryG 29 TryF29 := funX_ok Trymix (callsOk_cons Tryc61 callsOk_0) Tryz.func29 (by kernel_rfl)
def Trye18 : FuncId → Option Fun := fun f => match Nat.beq f 29 with | true => some TryF29 | false => match Nat.beq f 30 with | true => some TryF30 | false => match Nat.beq f 31 with | true => some TryF31 | false => none
def Tryp18 : Plans := fun id => none
def TryF18 : Fun := funX Tryz.prog TryG (fun _ => true) Trye18 Tryp18 lf Tryz.f18
theorem Tryc18 : CallOk Tryz.prog TryG 18 TryF18 := funX_ok Trymix (callsOk_cons Tryc29 (callsOk_cons Tryc30 (callsOk_cons Tryc31 callsOk_0))) Tryz.func18 (by kernel_rfl)
def Trye5 : FuncId → Option Fun := fun f => match Nat.beq f 18 with | true => some TryF18 | false => match Nat.beq f 19 with | true => some TryF19 | false => match Nat.beq f 20 with | true => some TryF20 | false => match Nat.beq f 21 with | true => some TryF21 | false => none
def Tryp5 : Plans := fun id => none
def TryF5 : Fun := funX Tryz.prog TryG (fun _ => true) Trye5 Tryp5 lf Tryz.f5
theorem Tryc5 : CallOk Tryz.prog TryG 5 TryF5 := funX_ok Trymix (callsOk_cons Tryc18 (callsOk_cons Tryc19 (callsOk_cons Tryc20 (callsOk_cons Tryc21 callsOk_0)))) Tryz.func5 (by kernel_rfl)
def Trye245 : FuncId → Option Fun := fun f => none
def Tryp245 : Plans := fun id => none
def TryF245 : Fun := funX Tryz.prog TryG (fun _ => true) Trye245 Tryp245 lf Tryz.f245
theorem Tryc245 : CallOk Tryz.prog TryG 245 TryF245 := funX_ok Trymix callsOk_0 Tryz.func245 (by kernel_rfl)
def Trye188 : FuncId → Option Fun := fun f => match Nat.beq f 245 with | true => some TryF245 | false => none
def Tryp188 : Plans := fun id => match Nat.beq id 20 with | true => some ([0, 1, 0, 0, 0, 0, 48, 124, 255], [(0, .pure), (1, .heavy), (2, .pure), (3, .pure), (4, .pure), (5, .pure), (6, .pure), (7, .pure), (8, .pure)]) | false => none
def TryF188 : Fun := funX Tryz.prog TryG (fun _ => true) Trye188 Tryp188 lf Tryz.f188
theorem Tryc188 : CallOk Tryz.prog TryG 188 TryF188 := funX_ok Trymix (callsOk_cons Tryc245 callsOk_0) Tryz.func188 (by kernel_rfl)
def TryF123 : Fun := fastF text7S JmF123
theorem Tryc123 : CallOk Tryz.prog TryG 123 TryF123 := text7_fast Jmc123
def Tryp47 : Plans := fun id => match Nat.beq id 2 with | true => some ([0, 1, 3, 7, 15, 31, 63, 127, 255, 511, 63, 1087, 3135, 7231, 15423, 32767, 65535], [(0, .pure), (1, .pure), (2, .pure), (3, .read 0), (4, .pure), (5, .pure), (6, .pure), (7, .pure), (8, .pure), (9, .read 0), (10, .pure), (11, .pure), (12, .pure), (13, .read 0), (14, .pure), (15, .pure), (16, .pure)]) | false => match Nat.beq id 5 with | true => some ([0, 1, 3, 7, 0, 16, 48, 112, 255], [(0, .pure), (1, .pure), (2, .pure), (3, .read 0), (4, .pure), (5, .pure), (6, .pure), (7, .read 0), (8, .pure)]) | false => none
def Tryp124 : Plans := fun id => match Nat.beq id 29 with | true => some ([0, 1, 0, 4, 12, 31, 63, 127], [(2, .pure), (3, .heavy), (0, .pure), (1, .read 1), (4, .alloc), (5, .heavy), (6, .pure), (7, .heavy)]) | false => none
def Trys47 (e : FuncId → Option Fun) : FuncId → Option Fun := fun f => match Nat.beq f 47 with | true => some (funX Tryz.prog TryG (fun _ => true) (fun f => match Nat.beq f 48 with | true => some TryF48 | false => match Nat.beq f 122 with | true => some TryF122 | false => match Nat.beq f 123 with | true => some TryF123 | false => match Nat.beq f 125 with | true => some TryF125 | false => e f) Tryp47 lf Tryz.f47) | false => match Nat.beq f 124 with | true => some (funX Tryz.prog TryG (fun _ => true) (fun f => match Nat.beq f 48 with | true => some TryF48 | false => match Nat.beq f 123 with | true => some TryF123 | false => match Nat.beq f 186 with | true => some TryF186 | false => e f) Tryp124 lf Tryz.f124) | false => none
theorem Tryso47 (e : FuncId → Option Fun) (he : ∀ f F, e f = some F → CallOk Tryz.prog TryG f F) : ∀ f F, Trys47 e f = some F → CallOk Tryz.prog TryG f F := callsOk_cons (funX_ok Trymix (callsOk_cons Tryc48 (callsOk_cons Tryc122 (callsOk_cons Tryc123 (callsOk_cons Tryc125 he)))) Tryz.func47 (by kernel_rfl)) (callsOk_cons (funX_ok Trymix (callsOk_cons Tryc48 (callsOk_cons Tryc123 (callsOk_cons Tryc186 he))) Tryz.func124 (by kernel_rfl)) (callsOk_0))
def TryF47 : Fun := pickF (levels (fun _ => none) Trys47 40) 47
theorem Tryc47 : CallOk Tryz.prog TryG 47 TryF47 := pickF_ok (levels_ok callsOk_0 Tryso47 40) 47
def TryF124 : Fun := pickF (levels (fun _ => none) Trys47 40) 124
theorem Tryc124 : CallOk Tryz.prog TryG 124 TryF124 := pickF_ok (levels_ok callsOk_0 Tryso47 40) 124
def Trye23 : FuncId → Option Fun := fun f => match Nat.beq f 47 with | true => some TryF47 | false => match Nat.beq f 48 with | true => some TryF48 | false => none
def Tryp23 : Plans := fun id => match Nat.beq id 6 with | true => some ([0, 1, 3, 7, 0, 16, 48, 112, 240, 511], [(0, .pure), (1, .pure), (2, .pure), (3, .read 0), (4, .pure), (5, .pure), (6, .pure), (7, .read 0), (8, .pure), (9, .pure)]) | false => match Nat.beq id 9 with | true => some ([0, 0, 2, 6, 14, 1, 63], [(0, .pure), (5, .heavy), (1, .pure), (2, .pure), (3, .pure), (4, .read 1), (6, .pure)]) | false => none
def TryF23 : Fun := funX Tryz.prog TryG (fun _ => true) Trye23 Tryp23 lf Tryz.f23
theorem Tryc23 : CallOk Tryz.prog TryG 23 TryF23 := funX_ok Trymix (callsOk_cons Tryc47 (callsOk_cons Tryc48 callsOk_0)) Tryz.func23 (by kernel_rfl)
def TryF154 : Fun := fastF validS JmF154
theorem Tryc154 : CallOk Tryz.prog TryG 154 TryF154 := valid7_fast Jmc154
def Tryp221 : Plans := fun id => match Nat.beq id 18 with | true => some ([0, 1, 0, 7, 15, 0, 32, 0, 224, 480, 1023], [(0, .pure), (1, .read 0), (2, .pure), (3, .pure), (4, .read 0), (5, .pure), (6, .read 0), (7, .pure), (8, .pure), (9, .read 0), (10, .pure)]) | false => none
def Trys221 (e : FuncId → Option Fun) : FuncId → Option Fun := fun f => match Nat.beq f 221 with | true => some (funX Tryz.prog TryG (fun _ => true) (fun f => match Nat.beq f 154 with | true => some TryF154 | false => e f) Tryp221 lf Tryz.f221) | false => none
theorem Tryso221 (e : FuncId → Option Fun) (he : ∀ f F, e f = some F → CallOk Tryz.prog TryG f F) : ∀ f F, Trys221 e f = some F → CallOk Tryz.prog TryG f F := callsOk_cons (funX_ok Trymix (callsOk_cons Tryc154 he) Tryz.func221 (by kernel_rfl)) (callsOk_0)
def TryF221 : Fun := pickF (levels (fun _ => none) Trys221 40) 221
theorem Tryc221 : CallOk Tryz.prog TryG 221 TryF221 := pickF_ok (levels_ok callsOk_0 Tryso221 40) 221
def Trye148 : FuncId → Option Fun := fun f => match Nat.beq f 221 with | true => some TryF221 | false => none
def Tryp148 : Plans := fun id => none
def TryF148 : Fun := funX Tryz.prog TryG (fun _ => true) Trye148 Tryp148 lf Tryz.f148
theorem Tryc148 : CallOk Tryz.prog TryG 148 TryF148 := funX_ok Trymix (callsOk_cons Tryc221 callsOk_0) Tryz.func148 (by kernel_rfl)
def Trye59 : FuncId → Option Fun := fun f => match Nat.beq f 148 with | true => some TryF148 | false => match Nat.beq f 149 with | true => some TryF149 | false => none
def Tryp59 : Plans := fun id => none
def TryF59 : Fun := funX Tryz.prog TryG (fun _ => true) Trye59 Tryp59 lf Tryz.f59
theorem Tryc59 : CallOk Tryz.prog TryG 59 TryF59 := funX_ok Trymix (callsOk_cons Tryc148 (callsOk_cons Tryc149 callsOk_0)) Tryz.func59 (by kernel_rfl)
def Trye25 : FuncId → Option Fun := fun f => match Nat.beq f 8 with | true => some TryF8 | false => match Nat.beq f 10 with | true => some TryF10 | false => match Nat.beq f 58 with | true => some TryF58 | false => match Nat.beq f 59 with | true => some TryF59 | false => none
def Tryp25 : Plans := fun id => match Nat.beq id 1 with | true => some ([0, 1, 0, 3, 15, 31, 0, 127], [(0, .pure), (1, .heavy), (3, .heavy), (2, .read 2), (4, .alloc), (5, .heavy), (6, .alloc), (7, .heavy)]) | false => match Nat.beq id 2 with | true => some ([0, 1, 3, 0, 8, 31, 63, 127, 255, 511, 1023, 1023, 2047, 8191], [(0, .heavy), (1, .heavy), (2, .heavy), (3, .read 3), (4, .alloc), (5, .heavy), (6, .alloc), (7, .heavy), (8, .heavy), (9, .pure), (10, .pure), (11, .pure), (12, .pure), (13, .pure)]) | false => none
def TryF25 : Fun := funX Tryz.prog TryG (fun _ => true) Trye25 Tryp25 lf Tryz.f25
theorem Tryc25 : CallOk Tryz.prog TryG 25 TryF25 := funX_ok Trymix (callsOk_cons Tryc8 (callsOk_cons Tryc10 (callsOk_cons Tryc58 (callsOk_cons Tryc59 callsOk_0)))) Tryz.func25 (by kernel_rfl)
def TryF246 : Fun := fastF mayS JmF246
theorem Tryc246 : CallOk Tryz.prog TryG 246 TryF246 := may_fast Jmc246
def TryF251 : Fun := fastF mustS JmF251
theorem Tryc251 : CallOk Tryz.prog TryG 251 TryF251 := must_fast Jmc251
def Trye167 : FuncId → Option Fun := fun f => none
def Tryp167 : Plans := fun id => none
def TryF167 : Fun := funX Tryz.prog TryG (fun _ => true) Trye167 Tryp167 lf Tryz.f167
theorem Tryc167 : CallOk Tryz.prog TryG 167 TryF167 := funX_ok Trymix callsOk_0 Tryz.func167 (by kernel_rfl)
def Tryp193 : Plans := fun id => none
def Trys193 (e : FuncId → Option Fun) : FuncId → Option Fun := fun f => match Nat.beq f 193 with | true => some (funX Tryz.prog TryG (fun _ => true) (fun f => match Nat.beq f 167 with | true => some TryF167 | false => e f) Tryp193 lf Tryz.f193) | false => none
theorem Tryso193 (e : FuncId → Option Fun) (he : ∀ f F, e f = some F → CallOk Tryz.prog TryG f F) : ∀ f F, Trys193 e f = some F → CallOk Tryz.prog TryG f F := callsOk_cons (funX_ok Trymix (callsOk_cons Tryc167 he) Tryz.func193 (by kernel_rfl)) (callsOk_0)
def TryF193 : Fun := pickF (levels (fun _ => none) Trys193 40) 193
theorem Tryc193 : CallOk Tryz.prog TryG 193 TryF193 := pickF_ok (levels_ok callsOk_0 Tryso193 40) 193
def Trye127 : FuncId → Option Fun := fun f => match Nat.beq f 179 with | true => some TryF179 | false => match Nat.beq f 193 with | true => some TryF193 | false => none
def Tryp127 : Plans := fun id => none
def TryF127 : Fun := funX Tryz.prog TryG (fun _ => true) Trye127 Tryp127 lf Tryz.f127
theorem Tryc127 : CallOk Tryz.prog TryG 127 TryF127 := funX_ok Trymix (callsOk_cons Tryc179 (callsOk_cons Tryc193 callsOk_0)) Tryz.func127 (by kernel_rfl)
def Trye208 : FuncId → Option Fun := fun f => match Nat.beq f 127 with | true => some TryF127 | false => none
def Tryp208 : Plans := fun id => match Nat.beq id 2 with | true => some ([0, 0, 2, 6, 14, 30, 62, 7, 255], [(0, .read 0), (1, .pure), (2, .pure), (7, .heavy), (3, .pure), (4, .read 1), (5, .pure), (6, .pure), (8, .pure)]) | false => none
def TryF208 : Fun := funX Tryz.prog TryG (fun _ => true) Trye208 Tryp208 lf Tryz.f208
theorem Tryc208 : CallOk Tryz.prog TryG 208 TryF208 := funX_ok Trymix (callsOk_cons Tryc127 callsOk_0) Tryz.func208 (by kernel_rfl)
def Trye278 : FuncId → Option Fun := fun f => match Nat.beq f 208 with | true => some TryF208 | false => none
def Tryp278 : Plans := fun id => match Nat.beq id 2 with | true => some ([0, 1, 0, 0, 8, 24, 56, 120, 248, 504, 59, 1087, 4095], [(0, .pure), (1, .read 0), (2, .pure), (3, .pure), (4, .pure), (5, .pure), (6, .pure), (7, .read 0), (8, .pure), (9, .pure), (10, .pure), (11, .pure), (12, .pure)]) | false => none
def TryF278 : Fun := funX Tryz.prog TryG (fun _ => true) Trye278 Tryp278 lf Tryz.f278
theorem Tryc278 : CallOk Tryz.prog TryG 278 TryF278 := funX_ok Trymix (callsOk_cons Tryc208 callsOk_0) Tryz.func278 (by kernel_rfl)
def Trye279 : FuncId → Option Fun := fun f => match Nat.beq f 208 with | true => some TryF208 | false => none
def Tryp279 : Plans := fun id => match Nat.beq id 2 with | true => some ([0, 1, 0, 0, 8, 24, 56, 120, 248, 504, 1016, 2040, 4088, 8184, 16376, 1019, 33791, 131071], [(0, .pure), (1, .read 0), (2, .pure), (3, .pure), (4, .pure), (5, .pure), (6, .pure), (7, .read 0), (8, .pure), (9, .pure), (10, .pure), (11, .read 0), (12, .pure), (13, .pure), (14, .pure), (15, .pure), (16, .pure), (17, .pure)]) | false => none
def TryF279 : Fun := funX Tryz.prog TryG (fun _ => true) Trye279 Tryp279 lf Tryz.f279
theorem Tryc279 : CallOk Tryz.prog TryG 279 TryF279 := funX_ok Trymix (callsOk_cons Tryc208 callsOk_0) Tryz.func279 (by kernel_rfl)
def Trye304 : FuncId → Option Fun := fun f => match Nat.beq f 208 with | true => some TryF208 | false => none
def Tryp304 : Plans := fun id => none
def TryF304 : Fun := funX Tryz.prog TryG (fun _ => true) Trye304 Tryp304 lf Tryz.f304
theorem Tryc304 : CallOk Tryz.prog TryG 304 TryF304 := funX_ok Trymix (callsOk_cons Tryc208 callsOk_0) Tryz.func304 (by kernel_rfl)
def Trye195 : FuncId → Option Fun := fun f => none
def Tryp195 : Plans := fun id => none
def TryF195 : Fun := funX Tryz.prog TryG (fun _ => true) Trye195 Tryp195 lf Tryz.f195
theorem Tryc195 : CallOk Tryz.prog TryG 195 TryF195 := funX_ok Trymix callsOk_0 Tryz.func195 (by kernel_rfl)
def Trye194 : FuncId → Option Fun := fun f => match Nat.beq f 195 with | true => some TryF195 | false => none
def Tryp194 : Plans := fun id => none
def TryF194 : Fun := funX Tryz.prog TryG (fun _ => true) Trye194 Tryp194 lf Tryz.f194
theorem Tryc194 : CallOk Tryz.prog TryG 194 TryF194 := funX_ok Trymix (callsOk_cons Tryc195 callsOk_0) Tryz.func194 (by kernel_rfl)
def Trye130 : FuncId → Option Fun := fun f => match Nat.beq f 194 with | true => some TryF194 | false => none
def Tryp130 : Plans := fun id => none
def TryF130 : Fun := funX Tryz.prog TryG (fun _ => true) Trye130 Tryp130 lf Tryz.f130
theorem Tryc130 : CallOk Tryz.prog TryG 130 TryF130 := funX_ok Trymix (callsOk_cons Tryc194 callsOk_0) Tryz.func130 (by kernel_rfl)
def Trye129 : FuncId → Option Fun := fun f => match Nat.beq f 130 with | true => some TryF130 | false => none
def Tryp129 : Plans := fun id => none
def TryF129 : Fun := funX Tryz.prog TryG (fun _ => true) Trye129 Tryp129 lf Tryz.f129
theorem Tryc129 : CallOk Tryz.prog TryG 129 TryF129 := funX_ok Trymix (callsOk_cons Tryc130 callsOk_0) Tryz.func129 (by kernel_rfl)
def Trye253 : FuncId → Option Fun := fun f => none
def Tryp253 : Plans := fun id => none
def TryF253 : Fun := funX Tryz.prog TryG (fun _ => true) Trye253 Tryp253 lf Tryz.f253
theorem Tryc253 : CallOk Tryz.prog TryG 253 TryF253 := funX_ok Trymix callsOk_0 Tryz.func253 (by kernel_rfl)
def Trye215 : FuncId → Option Fun := fun f => none
def Tryp215 : Plans := fun id => none
def TryF215 : Fun := funX Tryz.prog TryG (fun _ => true) Trye215 Tryp215 lf Tryz.f215
theorem Tryc215 : CallOk Tryz.prog TryG 215 TryF215 := funX_ok Trymix callsOk_0 Tryz.func215 (by kernel_rfl)
def Trye210 : FuncId → Option Fun := fun f => match Nat.beq f 215 with | true => some TryF215 | false => none
def Tryp210 : Plans := fun id => match Nat.beq id 0 with | true => some ([0, 0, 2, 2, 2, 2, 0, 66, 64, 322, 320, 1346, 2, 2, 2, 2, 2, 131070, 262143, 524287, 1048575], [(6, .heavy), (8, .heavy), (10, .heavy), (0, .read 3), (1, .alloc), (2, .ins 1), (3, .ins 1), (4, .ins 1), (5, .ins 1), (7, .ins 1), (9, .ins 1), (11, .ins 1), (12, .ins 1), (13, .ins 1), (14, .ins 1), (15, .ins 1), (16, .ins 1), (17, .pure), (18, .pure), (19, .pure), (20, .heavy)]) | false => none
def TryF210 : Fun := funX Tryz.prog TryG (fun _ => true) Trye210 Tryp210 lf Tryz.f210
theorem Tryc210 : CallOk Tryz.prog TryG 210 TryF210 := funX_ok Trymix (callsOk_cons Tryc215 callsOk_0) Tryz.func210 (by kernel_rfl)
def Trye136 : FuncId → Option Fun := fun f => none
def Tryp136 : Plans := fun id => none
def TryF136 : Fun := funX Tryz.prog TryG (fun _ => true) Trye136 Tryp136 lf Tryz.f136
theorem Tryc136 : CallOk Tryz.prog TryG 136 TryF136 := funX_ok Trymix callsOk_0 Tryz.func136 (by kernel_rfl)
def Trye284 : FuncId → Option Fun := fun f => none
def Tryp284 : Plans := fun id => none
def TryF284 : Fun := funX Tryz.prog TryG (fun _ => true) Trye284 Tryp284 lf Tryz.f284
theorem Tryc284 : CallOk Tryz.prog TryG 284 TryF284 := funX_ok Trymix callsOk_0 Tryz.func284 (by kernel_rfl)
def Trye311 : FuncId → Option Fun := fun f => none
def Tryp311 : Plans := fun id => none
def TryF311 : Fun := funX Tryz.prog TryG (fun _ => true) Trye311 Tryp311 lf Tryz.f311
theorem Tryc311 : CallOk Tryz.prog TryG 311 TryF311 := funX_ok Trymix callsOk_0 Tryz.func311 (by kernel_rfl)
def Trye312 : FuncId → Option Fun := fun f => none
def Tryp312 : Plans := fun id => none
def TryF312 : Fun := funX Tryz.prog TryG (fun _ => true) Trye312 Tryp312 lf Tryz.f312
theorem Tryc312 : CallOk Tryz.prog TryG 312 TryF312 := funX_ok Trymix callsOk_0 Tryz.func312 (by kernel_rfl)
def Trye224 : FuncId → Option Fun := fun f => match Nat.beq f 311 with | true => some TryF311 | false => match Nat.beq f 312 with | true => some TryF312 | false => none
def Tryp224 : Plans := fun id => match Nat.beq id 10 with | true => some ([0, 1, 0, 0, 0, 0, 48, 124, 255], [(0, .pure), (1, .heavy), (2, .pure), (3, .pure), (4, .pure), (5, .pure), (6, .pure), (7, .pure), (8, .pure)]) | false => none
def TryF224 : Fun := funX Tryz.prog TryG (fun _ => true) Trye224 Tryp224 lf Tryz.f224
theorem Tryc224 : CallOk Tryz.prog TryG 224 TryF224 := funX_ok Trymix (callsOk_cons Tryc311 (callsOk_cons Tryc312 callsOk_0)) Tryz.func224 (by kernel_rfl)
def TryF151 : Fun := fastF validS JmF151
theorem Tryc151 : CallOk Tryz.prog TryG 151 TryF151 := valid_fast Jmc151
def TryF250 : Fun := fastF textS JmF250
theorem Tryc250 : CallOk Tryz.prog TryG 250 TryF250 := text_fast Jmc250
def Trye254 : FuncId → Option Fun := fun f => match Nat.beq f 151 with | true => some TryF151 | false => none
def Tryp254 : Plans := fun id => none
def TryF254 : Fun := funX Tryz.prog TryG (fun _ => true) Trye254 Tryp254 lf Tryz.f254
theorem Tryc254 : CallOk Tryz.prog TryG 254 TryF254 := funX_ok Trymix (callsOk_cons Tryc151 callsOk_0) Tryz.func254 (by kernel_rfl)
def Tryp131 : Plans := fun id => none
def Tryp196 : Plans := fun id => none
def Tryp200 : Plans := fun id => none
def Tryp255 : Plans := fun id => none
def Trys131 (e : FuncId → Option Fun) : FuncId → Option Fun := fun f => match Nat.beq f 131 with | true => some (funX Tryz.prog TryG (fun _ => true) (fun f => e f) Tryp131 lf Tryz.f131) | false => match Nat.beq f 196 with | true => some (funX Tryz.prog TryG (fun _ => true) (fun f => match Nat.beq f 129 with | true => some TryF129 | false => e f) Tryp196 lf Tryz.f196) | false => match Nat.beq f 200 with | true => some (funX Tryz.prog TryG (fun _ => true) (fun f => match Nat.beq f 151 with | true => some TryF151 | false => match Nat.beq f 253 with | true => some TryF253 | false => match Nat.beq f 254 with | true => some TryF254 | false => e f) Tryp200 lf Tryz.f200) | false => match Nat.beq f 255 with | true => some (funX Tryz.prog TryG (fun _ => true) (fun f => e f) Tryp255 lf Tryz.f255) | false => none
theorem Tryso131 (e : FuncId → Option Fun) (he : ∀ f F, e f = some F → CallOk Tryz.prog TryG f F) : ∀ f F, Trys131 e f = some F → CallOk Tryz.prog TryG f F := callsOk_cons (funX_ok Trymix he Tryz.func131 (by kernel_rfl)) (callsOk_cons (funX_ok Trymix (callsOk_cons Tryc129 he) Tryz.func196 (by kernel_rfl)) (callsOk_cons (funX_ok Trymix (callsOk_cons Tryc151 (callsOk_cons Tryc253 (callsOk_cons Tryc254 he))) Tryz.func200 (by kernel_rfl)) (callsOk_cons (funX_ok Trymix he Tryz.func255 (by kernel_rfl)) (callsOk_0))))
def TryF131 : Fun := pickF (levels (fun _ => none) Trys131 40) 131
theorem Tryc131 : CallOk Tryz.prog TryG 131 TryF131 := pickF_ok (levels_ok callsOk_0 Tryso131 40) 131
def TryF196 : Fun := pickF (levels (fun _ => none) Trys131 40) 196
theorem Tryc196 : CallOk Tryz.prog TryG 196 TryF196 := pickF_ok (levels_ok callsOk_0 Tryso131 40) 196
def TryF200 : Fun := pickF (levels (fun _ => none) Trys131 40) 200
theorem Tryc200 : CallOk Tryz.prog TryG 200 TryF200 := pickF_ok (levels_ok callsOk_0 Tryso131 40) 200
def TryF255 : Fun := pickF (levels (fun _ => none) Trys131 40) 255
theorem Tryc255 : CallOk Tryz.prog TryG 255 TryF255 := pickF_ok (levels_ok callsOk_0 Tryso131 40) 255
def Trye140 : FuncId → Option Fun := fun f => match Nat.beq f 200 with | true => some TryF200 | false => none
def Tryp140 : Plans := fun id => none
def TryF140 : Fun := funX Tryz.prog TryG (fun _ => true) Trye140 Tryp140 lf Tryz.f140
theorem Tryc140 : CallOk Tryz.prog TryG 140 TryF140 := funX_ok Trymix (callsOk_cons Tryc200 callsOk_0) Tryz.func140 (by kernel_rfl)
def Trye344 : FuncId → Option Fun := fun f => none
def Tryp344 : Plans := fun id => match Nat.beq id 1 with | true => some ([0, 1, 3, 7, 0, 16, 48, 112, 240, 511, 1023, 2047, 4095, 8191, 16383, 2047, 34815, 100351, 231423, 524287, 1048575, 2097151, 4194303, 8388607, 16777215, 33554431, 67108863, 8388607, 142606335, 411041791, 947912703, 2147483647, 4294967295, 8589934591, 17179869183], [(0, .pure), (1, .pure), (2, .pure), (3, .read 0), (4, .pure), (5, .pure), (6, .pure), (7, .read 0), (8, .pure), (9, .pure), (10, .pure), (11, .pure), (12, .pure), (13, .pure), (14, .read 0), (15, .pure), (16, .pure), (17, .pure), (18, .read 0), (19, .pure), (20, .pure), (21, .pure), (22, .pure), (23, .pure), (24, .pure), (25, .pure), (26, .read 0), (27, .pure), (28, .pure), (29, .pure), (30, .read 0), (31, .pure), (32, .pure), (33, .pure), (34, .pure)]) | false => none
def TryF344 : Fun := funX Tryz.prog TryG (fun _ => true) Trye344 Tryp344 lf Tryz.f344
theorem Tryc344 : CallOk Tryz.prog TryG 344 TryF344 := funX_ok Trymix callsOk_0 Tryz.func344 (by kernel_rfl)
def Trye252 : FuncId → Option Fun := fun f => match Nat.beq f 246 with | true => some TryF246 | false => match Nat.beq f 344 with | true => some TryF344 | false => none
def Tryp252 : Plans := fun id => match Nat.beq id 4 with | true => some ([0, 1, 3, 7, 0, 31], [(0, .pure), (1, .pure), (2, .pure), (3, .read 0), (4, .pure), (5, .pure)]) | false => match Nat.beq id 6 with | true => some ([0, 1, 0, 4, 12, 28, 0, 64, 192, 448, 1020, 2044, 4092, 8191, 16383], [(0, .pure), (1, .pure), (2, .pure), (3, .pure), (4, .pure), (5, .read 0), (6, .pure), (7, .pure), (8, .pure), (9, .read 0), (10, .pure), (11, .pure), (12, .pure), (13, .pure), (14, .pure)]) | false => none
def TryF252 : Fun := funX Tryz.prog TryG (fun _ => true) Trye252 Tryp252 lf Tryz.f252
theorem Tryc252 : CallOk Tryz.prog TryG 252 TryF252 := funX_ok Trymix (callsOk_cons Tryc246 (callsOk_cons Tryc344 callsOk_0)) Tryz.func252 (by kernel_rfl)
def Tryp191 : Plans := fun id => match Nat.beq id 1 with | true => some ([0, 1, 3, 7, 0, 16, 48, 112, 240, 511], [(0, .read 0), (1, .pure), (2, .pure), (3, .read 0), (4, .read 0), (5, .pure), (6, .pure), (7, .read 0), (8, .pure), (9, .pure)]) | false => match Nat.beq id 3 with | true => some ([0, 1, 3, 7, 0, 16, 48, 112, 255, 511], [(0, .read 0), (1, .pure), (2, .pure), (3, .read 0), (4, .read 0), (5, .pure), (6, .pure), (7, .read 0), (8, .pure), (9, .pure)]) | false => none
def Tryp247 : Plans := fun id => none
def Tryp248 : Plans := fun id => match Nat.beq id 0 with | true => some ([0, 1, 0, 0, 8, 28, 3, 0, 255, 511, 1023, 511, 2559], [(2, .read 0), (3, .read 0), (4, .pure), (5, .heavy), (0, .pure), (1, .read 1), (6, .pure), (7, .alloc), (8, .heavy), (9, .pure), (11, .pure), (10, .heavy), (12, .heavy)]) | false => none
def Tryp249 : Plans := fun id => match Nat.beq id 7 with | true => some ([0, 1, 0, 0, 8, 28, 3, 0, 255, 511, 1023, 511, 2559], [(2, .read 0), (3, .read 0), (4, .pure), (5, .heavy), (0, .pure), (1, .read 1), (6, .pure), (7, .alloc), (8, .heavy), (9, .pure), (11, .pure), (10, .heavy), (12, .heavy)]) | false => none
def Trys191 (e : FuncId → Option Fun) : FuncId → Option Fun := fun f => match Nat.beq f 191 with | true => some (funX Tryz.prog TryG (fun _ => true) (fun f => match Nat.beq f 246 with | true => some TryF246 | false => match Nat.beq f 250 with | true => some TryF250 | false => match Nat.beq f 252 with | true => some TryF252 | false => e f) Tryp191 lf Tryz.f191) | false => match Nat.beq f 247 with | true => some (funX Tryz.prog TryG (fun _ => true) (fun f => match Nat.beq f 190 with | true => some TryF190 | false => match Nat.beq f 246 with | true => some TryF246 | false => match Nat.beq f 251 with | true => some TryF251 | false => e f) Tryp247 lf Tryz.f247) | false => match Nat.beq f 248 with | true => some (funX Tryz.prog TryG (fun _ => true) (fun f => e f) Tryp248 lf Tryz.f248) | false => match Nat.beq f 249 with | true => some (funX Tryz.prog TryG (fun _ => true) (fun f => match Nat.beq f 101 with | true => some TryF101 | false => match Nat.beq f 190 with | true => some TryF190 | false => match Nat.beq f 250 with | true => some TryF250 | false => match Nat.beq f 251 with | true => some TryF251 | false => e f) Tryp249 lf Tryz.f249) | false => none
theorem Tryso191 (e : FuncId → Option Fun) (he : ∀ f F, e f = some F → CallOk Tryz.prog TryG f F) : ∀ f F, Trys191 e f = some F → CallOk Tryz.prog TryG f F := callsOk_cons (funX_ok Trymix (callsOk_cons Tryc246 (callsOk_cons Tryc250 (callsOk_cons Tryc252 he))) Tryz.func191 (by kernel_rfl)) (callsOk_cons (funX_ok Trymix (callsOk_cons Tryc190 (callsOk_cons Tryc246 (callsOk_cons Tryc251 he))) Tryz.func247 (by kernel_rfl)) (callsOk_cons (funX_ok Trymix he Tryz.func248 (by kernel_rfl)) (callsOk_cons (funX_ok Trymix (callsOk_cons Tryc101 (callsOk_cons Tryc190 (callsOk_cons Tryc250 (callsOk_cons Tryc251 he)))) Tryz.func249 (by kernel_rfl)) (callsOk_0))))
def TryF191 : Fun := pickF (levels (fun _ => none) Trys191 40) 191
theorem Tryc191 : CallOk Tryz.prog TryG 191 TryF191 := pickF_ok (levels_ok callsOk_0 Tryso191 40) 191
def TryF247 : Fun := pickF (levels (fun _ => none) Trys191 40) 247
theorem Tryc247 : CallOk Tryz.prog TryG 247 TryF247 := pickF_ok (levels_ok callsOk_0 Tryso191 40) 247
def TryF248 : Fun := pickF (levels (fun _ => none) Trys191 40) 248
theorem Tryc248 : CallOk Tryz.prog TryG 248 TryF248 := pickF_ok (levels_ok callsOk_0 Tryso191 40) 248
def TryF249 : Fun := pickF (levels (fun _ => none) Trys191 40) 249
theorem Tryc249 : CallOk Tryz.prog TryG 249 TryF249 := pickF_ok (levels_ok callsOk_0 Tryso191 40) 249
def Trye126 : FuncId → Option Fun := fun f => match Nat.beq f 190 with | true => some TryF190 | false => match Nat.beq f 191 with | true => some TryF191 | false => none
def Tryp126 : Plans := fun id => match Nat.beq id 8 with | true => some ([0, 1, 3, 7, 0, 16, 48, 112, 240, 511], [(0, .read 0), (1, .pure), (2, .pure), (3, .read 0), (4, .read 0), (5, .pure), (6, .pure), (7, .read 0), (8, .pure), (9, .pure)]) | false => none
def Tryd126 : FuncId → Option Fun := fun f => match Nat.beq f 189 with | true => some TryF189 | false => none
def TryF126 : Fun := funXT Tryz.prog TryG (fun _ => true) Trye126 Tryd126 Tryp126 lf Tryz.f126
theorem Tryc126 : CallOk Tryz.prog TryG 126 TryF126 := funXT_ok Trymix (callsOk_cons Tryc190 (callsOk_cons Tryc191 callsOk_0)) (dcallsOk_cons Tryb189 dcallsOk_0) Tryz.func126 (by kernel_rfl)
def Trye50 : FuncId → Option Fun := fun f => match Nat.beq f 126 with | true => some TryF126 | false => match Nat.beq f 127 with | true => some TryF127 | false => match Nat.beq f 131 with | true => some TryF131 | false => none
def Tryp50 : Plans := fun id => match Nat.beq id 23 with | true => some ([0, 0, 2, 6, 14, 30, 0, 64, 192, 448, 0, 1024, 3072, 7168, 15360, 32766, 65534, 131071, 262143], [(0, .pure), (1, .pure), (2, .read 0), (3, .pure), (4, .pure), (5, .read 0), (6, .pure), (7, .read 0), (8, .pure), (9, .read 0), (10, .pure), (11, .read 0), (12, .pure), (13, .pure), (14, .read 0), (15, .pure), (16, .alloc), (17, .heavy), (18, .pure)]) | false => none
def TryF50 : Fun := funX Tryz.prog TryG (fun _ => true) Trye50 Tryp50 lf Tryz.f50
theorem Tryc50 : CallOk Tryz.prog TryG 50 TryF50 := funX_ok Trymix (callsOk_cons Tryc126 (callsOk_cons Tryc127 (callsOk_cons Tryc131 callsOk_0))) Tryz.func50 (by kernel_rfl)
def TryF345 : Fun := sameF
theorem Tryc345 : CallOk Tryz.prog TryG 345 TryF345 := sameF_ok Tryz.func345 (by kernel_rfl) (by kernel_rfl) (by kernel_rfl) (by kernel_rfl)
def Trye256 : FuncId → Option Fun := fun f => match Nat.beq f 345 with | true => some TryF345 | false => none
def Tryp256 : Plans := fun id => none
def TryF256 : Fun := funX Tryz.prog TryG (fun _ => true) Trye256 Tryp256 lf Tryz.f256
theorem Tryc256 : CallOk Tryz.prog TryG 256 TryF256 := funX_ok Trymix (callsOk_cons Tryc345 callsOk_0) Tryz.func256 (by kernel_rfl)
def Trye201 : FuncId → Option Fun := fun f => match Nat.beq f 256 with | true => some TryF256 | false => none
def Tryp201 : Plans := fun id => none
def TryF201 : Fun := funX Tryz.prog TryG (fun _ => true) Trye201 Tryp201 lf Tryz.f201
theorem Tryc201 : CallOk Tryz.prog TryG 201 TryF201 := funX_ok Trymix (callsOk_cons Tryc256 callsOk_0) Tryz.func201 (by kernel_rfl)
def TryF258 : Fun := fastF wbyteS JmF258
theorem Tryc258 : CallOk Tryz.prog TryG 258 TryF258 := wbyte_fast Jmc258
def TryF203 : Fun := fastF wtextS JmF203
theorem Tryc203 : CallOk Tryz.prog TryG 203 TryF203 := wtext_fast Jmc203
def Trye347 : FuncId → Option Fun := fun f => none
def Tryp347 : Plans := fun id => none
def TryF347 : Fun := funX Tryz.prog TryG (fun _ => true) Trye347 Tryp347 lf Tryz.f347
theorem Tryc347 : CallOk Tryz.prog TryG 347 TryF347 := funX_ok Trymix callsOk_0 Tryz.func347 (by kernel_rfl)
def Trye259 : FuncId → Option Fun := fun f => match Nat.beq f 347 with | true => some TryF347 | false => none
def Tryp259 : Plans := fun id => none
def TryF259 : Fun := funX Tryz.prog TryG (fun _ => true) Trye259 Tryp259 lf Tryz.f259
theorem Tryc259 : CallOk Tryz.prog TryG 259 TryF259 := funX_ok Trymix (callsOk_cons Tryc347 callsOk_0) Tryz.func259 (by kernel_rfl)
def Trye206 : FuncId → Option Fun := fun f => match Nat.beq f 259 with | true => some TryF259 | false => none
def Tryp206 : Plans := fun id => none
def TryF206 : Fun := funX Tryz.prog TryG (fun _ => true) Trye206 Tryp206 lf Tryz.f206
theorem Tryc206 : CallOk Tryz.prog TryG 206 TryF206 := funX_ok Trymix (callsOk_cons Tryc259 callsOk_0) Tryz.func206 (by kernel_rfl)
def Trye145 : FuncId → Option Fun := fun f => match Nat.beq f 127 with | true => some TryF127 | false => match Nat.beq f 134 with | true => some TryF134 | false => match Nat.beq f 206 with | true => some TryF206 | false => none
def Tryp145 : Plans := fun id => match Nat.beq id 14 with | true => some ([0, 1, 0, 0, 8, 0, 0, 0, 71, 327, 1023, 2047], [(0, .pure), (1, .read 0), (2, .pure), (6, .pure), (8, .pure), (9, .heavy), (3, .pure), (4, .read 1), (5, .pure), (7, .read 1), (10, .pure), (11, .heavy)]) | false => none
def TryF145 : Fun := funX Tryz.prog TryG (fun _ => true) Trye145 Tryp145 lf Tryz.f145
theorem Tryc145 : CallOk Tryz.prog TryG 145 TryF145 := funX_ok Trymix (callsOk_cons Tryc127 (callsOk_cons Tryc134 (callsOk_cons Tryc206 callsOk_0))) Tryz.func145 (by kernel_rfl)
def TryF352 : Fun := atomLoad .u32
theorem Tryc352 : CallOk Tryz.prog TryG 352 TryF352 := atomLoad_ok Tryz.func352 (by kernel_rfl) (by kernel_rfl) (by kernel_rfl) .u32 (by kernel_rfl)
def Trye263 : FuncId → Option Fun := fun f => match Nat.beq f 352 with | true => some TryF352 | false => none
def Tryp263 : Plans := fun id => none
def TryF263 : Fun := funX Tryz.prog TryG (fun _ => true) Trye263 Tryp263 lf Tryz.f263
theorem Tryc263 : CallOk Tryz.prog TryG 263 TryF263 := funX_ok Trymix (callsOk_cons Tryc352 callsOk_0) Tryz.func263 (by kernel_rfl)
def Trye108 : FuncId → Option Fun := fun f => none
def Tryp108 : Plans := fun id => none
def TryF108 : Fun := funX Tryz.prog TryG (fun _ => true) Trye108 Tryp108 lf Tryz.f108
theorem Tryc108 : CallOk Tryz.prog TryG 108 TryF108 := funX_ok Trymix callsOk_0 Tryz.func108 (by kernel_rfl)
def Trye309 : FuncId → Option Fun := fun f => none
def Tryp309 : Plans := fun id => none
def TryF309 : Fun := funX Tryz.prog TryG (fun _ => true) Trye309 Tryp309 lf Tryz.f309
theorem Tryc309 : CallOk Tryz.prog TryG 309 TryF309 := funX_ok Trymix callsOk_0 Tryz.func309 (by kernel_rfl)
def Trye308 : FuncId → Option Fun := fun f => match Nat.beq f 309 with | true => some TryF309 | false => none
def Tryp308 : Plans := fun id => none
def TryF308 : Fun := funX Tryz.prog TryG (fun _ => true) Trye308 Tryp308 lf Tryz.f308
theorem Tryc308 : CallOk Tryz.prog TryG 308 TryF308 := funX_ok Trymix (callsOk_cons Tryc309 callsOk_0) Tryz.func308 (by kernel_rfl)
def Trye380 : FuncId → Option Fun := fun f => none
def Tryp380 : Plans := fun id => none
def TryF380 : Fun := funX Tryz.prog TryG (fun _ => true) Trye380 Tryp380 lf Tryz.f380
theorem Tryc380 : CallOk Tryz.prog TryG 380 TryF380 := funX_ok Trymix callsOk_0 Tryz.func380 (by kernel_rfl)
def Trye310 : FuncId → Option Fun := fun f => match Nat.beq f 380 with | true => some TryF380 | false => none
def Tryp310 : Plans := fun id => none
def TryF310 : Fun := funX Tryz.prog TryG (fun _ => true) Trye310 Tryp310 lf Tryz.f310
theorem Tryc310 : CallOk Tryz.prog TryG 310 TryF310 := funX_ok Trymix (callsOk_cons Tryc380 callsOk_0) Tryz.func310 (by kernel_rfl)
def Trye400 : FuncId → Option Fun := fun f => none
def Tryp400 : Plans := fun id => none
def TryF400 : Fun := funX Tryz.prog TryG (fun _ => true) Trye400 Tryp400 lf Tryz.f400
theorem Tryc400 : CallOk Tryz.prog TryG 400 TryF400 := funX_ok Trymix callsOk_0 Tryz.func400 (by kernel_rfl)
def Trye346 : FuncId → Option Fun := fun f => match Nat.beq f 400 with | true => some TryF400 | false => none
def Tryp346 : Plans := fun id => none
def TryF346 : Fun := funX Tryz.prog TryG (fun _ => true) Trye346 Tryp346 lf Tryz.f346
theorem Tryc346 : CallOk Tryz.prog TryG 346 TryF346 := funX_ok Trymix (callsOk_cons Tryc400 callsOk_0) Tryz.func346 (by kernel_rfl)
def Trye257 : FuncId → Option Fun := fun f => match Nat.beq f 346 with | true => some TryF346 | false => none
def Tryp257 : Plans := fun id => none
def TryF257 : Fun := funX Tryz.prog TryG (fun _ => true) Trye257 Tryp257 lf Tryz.f257
theorem Tryc257 : CallOk Tryz.prog TryG 257 TryF257 := funX_ok Trymix (callsOk_cons Tryc346 callsOk_0) Tryz.func257 (by kernel_rfl)
def Trye202 : FuncId → Option Fun := fun f => match Nat.beq f 257 with | true => some TryF257 | false => none
def Tryp202 : Plans := fun id => none
def TryF202 : Fun := funX Tryz.prog TryG (fun _ => true) Trye202 Tryp202 lf Tryz.f202
theorem Tryc202 : CallOk Tryz.prog TryG 202 TryF202 := funX_ok Trymix (callsOk_cons Tryc257 callsOk_0) Tryz.func202 (by kernel_rfl)
def Tryp141 : Plans := fun id => match Nat.beq id 11 with | true => some ([0, 1, 3, 0, 8, 24, 63], [(3, .pure), (4, .read 0), (5, .heavy), (0, .pure), (1, .pure), (2, .pure), (6, .heavy)]) | false => none
def Tryp204 : Plans := fun id => none
def Trys141 (e : FuncId → Option Fun) : FuncId → Option Fun := fun f => match Nat.beq f 141 with | true => some (funX Tryz.prog TryG (fun _ => true) (fun f => match Nat.beq f 142 with | true => some TryF142 | false => match Nat.beq f 201 with | true => some TryF201 | false => match Nat.beq f 202 with | true => some TryF202 | false => match Nat.beq f 203 with | true => some TryF203 | false => e f) Tryp141 lf Tryz.f141) | false => match Nat.beq f 204 with | true => some (funX Tryz.prog TryG (fun _ => true) (fun f => match Nat.beq f 203 with | true => some TryF203 | false => match Nat.beq f 258 with | true => some TryF258 | false => e f) Tryp204 lf Tryz.f204) | false => none
theorem Tryso141 (e : FuncId → Option Fun) (he : ∀ f F, e f = some F → CallOk Tryz.prog TryG f F) : ∀ f F, Trys141 e f = some F → CallOk Tryz.prog TryG f F := callsOk_cons (funX_ok Trymix (callsOk_cons Tryc142 (callsOk_cons Tryc201 (callsOk_cons Tryc202 (callsOk_cons Tryc203 he)))) Tryz.func141 (by kernel_rfl)) (callsOk_cons (funX_ok Trymix (callsOk_cons Tryc203 (callsOk_cons Tryc258 he)) Tryz.func204 (by kernel_rfl)) (callsOk_0))
def TryF141 : Fun := pickF (levels (fun _ => none) Trys141 40) 141
theorem Tryc141 : CallOk Tryz.prog TryG 141 TryF141 := pickF_ok (levels_ok callsOk_0 Tryso141 40) 141
def TryF204 : Fun := pickF (levels (fun _ => none) Trys141 40) 204
theorem Tryc204 : CallOk Tryz.prog TryG 204 TryF204 := pickF_ok (levels_ok callsOk_0 Tryso141 40) 204
def Trye54 : FuncId → Option Fun := fun f => match Nat.beq f 140 with | true => some TryF140 | false => match Nat.beq f 141 with | true => some TryF141 | false => match Nat.beq f 142 with | true => some TryF142 | false => match Nat.beq f 143 with | true => some TryF143 | false => none
def Tryp54 : Plans := fun id => none
def TryF54 : Fun := funX Tryz.prog TryG (fun _ => true) Trye54 Tryp54 lf Tryz.f54
theorem Tryc54 : CallOk Tryz.prog TryG 54 TryF54 := funX_ok Trymix (callsOk_cons Tryc140 (callsOk_cons Tryc141 (callsOk_cons Tryc142 (callsOk_cons Tryc143 callsOk_0)))) Tryz.func54 (by kernel_rfl)
def Trye283 : FuncId → Option Fun := fun f => match Nat.beq f 202 with | true => some TryF202 | false => none
def Tryp283 : Plans := fun id => none
def TryF283 : Fun := funX Tryz.prog TryG (fun _ => true) Trye283 Tryp283 lf Tryz.f283
theorem Tryc283 : CallOk Tryz.prog TryG 283 TryF283 := funX_ok Trymix (callsOk_cons Tryc202 callsOk_0) Tryz.func283 (by kernel_rfl)
def Trye307 : FuncId → Option Fun := fun f => match Nat.beq f 53 with | true => some TryF53 | false => match Nat.beq f 108 with | true => some TryF108 | false => match Nat.beq f 283 with | true => some TryF283 | false => none
def Tryp307 : Plans := fun id => match Nat.beq id 2 with | true => some ([0, 1, 3, 7, 15, 0, 32, 0, 159, 511, 0, 2047], [(0, .pure), (1, .pure), (2, .pure), (3, .read 0), (4, .heavy), (7, .pure), (8, .heavy), (5, .pure), (6, .read 2), (9, .pure), (10, .alloc), (11, .heavy)]) | false => match Nat.beq id 3 with | true => some ([0, 0, 2, 6, 14, 30, 0, 64, 254, 511, 1023, 2047], [(1, .pure), (2, .pure), (3, .pure), (4, .read 0), (5, .heavy), (6, .read 1), (7, .alloc), (8, .heavy), (0, .pure), (9, .pure), (10, .pure), (11, .heavy)]) | false => match Nat.beq id 4 with | true => some ([0, 0, 2, 6, 14, 0, 32, 96, 224, 480, 992, 2016, 4094, 8191, 16383, 32767], [(0, .pure), (1, .pure), (2, .pure), (3, .pure), (4, .read 0), (5, .pure), (6, .pure), (7, .pure), (8, .read 0), (9, .pure), (10, .pure), (11, .pure), (12, .pure), (13, .pure), (14, .pure), (15, .heavy)]) | false => none
def TryF307 : Fun := funX Tryz.prog TryG (fun _ => true) Trye307 Tryp307 lf Tryz.f307
theorem Tryc307 : CallOk Tryz.prog TryG 307 TryF307 := funX_ok Trymix (callsOk_cons Tryc53 (callsOk_cons Tryc108 (callsOk_cons Tryc283 callsOk_0))) Tryz.func307 (by kernel_rfl)
def TryF409 : Fun := atomStore
theorem Tryc409 : CallOk Tryz.prog TryG 409 TryF409 := atomStore_ok Tryz.func409 (by kernel_rfl) (by kernel_rfl) (by kernel_rfl) (by kernel_rfl)
def Trye410 : FuncId → Option Fun := fun f => none
def Tryp410 : Plans := fun id => none
def TryF410 : Fun := funX Tryz.prog TryG (fun _ => true) Trye410 Tryp410 lf Tryz.f410
theorem Tryc410 : CallOk Tryz.prog TryG 410 TryF410 := funX_ok Trymix callsOk_0 Tryz.func410 (by kernel_rfl)
def Trye355 : FuncId → Option Fun := fun f => match Nat.beq f 409 with | true => some TryF409 | false => match Nat.beq f 410 with | true => some TryF410 | false => none
def Tryp355 : Plans := fun id => match Nat.beq id 0 with | true => some ([0, 1, 3, 0, 8, 31], [(3, .pure), (4, .heavy), (0, .pure), (1, .pure), (2, .pure), (5, .heavy)]) | false => none
def TryF355 : Fun := funX Tryz.prog TryG (fun _ => true) Trye355 Tryp355 lf Tryz.f355
theorem Tryc355 : CallOk Tryz.prog TryG 355 TryF355 := funX_ok Trymix (callsOk_cons Tryc409 (callsOk_cons Tryc410 callsOk_0)) Tryz.func355 (by kernel_rfl)
theorem Tryb355 : DCallOk Tryz.prog TryG 355 TryF355 := (funX_body Trymix (callsOk_cons Tryc409 (callsOk_cons Tryc410 callsOk_0)) Tryz.func355 (by kernel_rfl)).deferred
def Trye267 : FuncId → Option Fun := fun f => none
def Tryp267 : Plans := fun id => none
def TryF267 : Fun := funX Tryz.prog TryG (fun _ => true) Trye267 Tryp267 lf Tryz.f267
theorem Tryc267 : CallOk Tryz.prog TryG 267 TryF267 := funX_ok Trymix callsOk_0 Tryz.func267 (by kernel_rfl)
def Trye377 : FuncId → Option Fun := fun f => match Nat.beq f 54 with | true => some TryF54 | false => match Nat.beq f 208 with | true => some TryF208 | false => match Nat.beq f 267 with | true => some TryF267 | false => none
def Tryp377 : Plans := fun id => none
def TryF377 : Fun := funX Tryz.prog TryG (fun _ => true) Trye377 Tryp377 lf Tryz.f377
theorem Tryc377 : CallOk Tryz.prog TryG 377 TryF377 := funX_ok Trymix (callsOk_cons Tryc54 (callsOk_cons Tryc208 (callsOk_cons Tryc267 callsOk_0))) Tryz.func377 (by kernel_rfl)
def Trye441 : FuncId → Option Fun := fun f => none
def Tryp441 : Plans := fun id => none
def TryF441 : Fun := funX Tryz.prog TryG (fun _ => true) Trye441 Tryp441 lf Tryz.f441
theorem Tryc441 : CallOk Tryz.prog TryG 441 TryF441 := funX_ok Trymix callsOk_0 Tryz.func441 (by kernel_rfl)
def TryF461 : Fun := markF0
theorem Tryc461 : CallOk Tryz.prog TryG 461 TryF461 := markF0_ok Tryz.func461 (by kernel_rfl) (by kernel_rfl) (by kernel_rfl) .disable (by kernel_rfl)
def TryF462 : Fun := atomCas .i32
theorem Tryc462 : CallOk Tryz.prog TryG 462 TryF462 := atomCas_ok Tryz.func462 (by kernel_rfl) (by kernel_rfl) (by kernel_rfl) .i32 (by kernel_rfl)
def TryF463 : Fun := markF0
theorem Tryc463 : CallOk Tryz.prog TryG 463 TryF463 := markF0_ok Tryz.func463 (by kernel_rfl) (by kernel_rfl) (by kernel_rfl) .enable (by kernel_rfl)
def TryF464 : Fun := markF1
theorem Tryc464 : CallOk Tryz.prog TryG 464 TryF464 := markF1_ok Tryz.func464 (by kernel_rfl) (by kernel_rfl) (by kernel_rfl) .acquire (by kernel_rfl)
def Trye407 : FuncId → Option Fun := fun f => match Nat.beq f 461 with | true => some TryF461 | false => match Nat.beq f 462 with | true => some TryF462 | false => match Nat.beq f 463 with | true => some TryF463 | false => match Nat.beq f 464 with | true => some TryF464 | false => none
def Tryp407 : Plans := fun id => none
def TryF407 : Fun := funX Tryz.prog TryG (fun _ => true) Trye407 Tryp407 lf Tryz.f407
theorem Tryc407 : CallOk Tryz.prog TryG 407 TryF407 := funX_ok Trymix (callsOk_cons Tryc461 (callsOk_cons Tryc462 (callsOk_cons Tryc463 (callsOk_cons Tryc464 callsOk_0)))) Tryz.func407 (by kernel_rfl)
def Trye353 : FuncId → Option Fun := fun f => match Nat.beq f 407 with | true => some TryF407 | false => none
def Tryp353 : Plans := fun id => none
def TryF353 : Fun := funX Tryz.prog TryG (fun _ => true) Trye353 Tryp353 lf Tryz.f353
theorem Tryc353 : CallOk Tryz.prog TryG 353 TryF353 := funX_ok Trymix (callsOk_cons Tryc407 callsOk_0) Tryz.func353 (by kernel_rfl)
def TryF466 : Fun := markF1
theorem Tryc466 : CallOk Tryz.prog TryG 466 TryF466 := markF1_ok Tryz.func466 (by kernel_rfl) (by kernel_rfl) (by kernel_rfl) .releaseMerge (by kernel_rfl)
def TryF467 : Fun := atomAdd .i32
theorem Tryc467 : CallOk Tryz.prog TryG 467 TryF467 := atomAdd_ok Tryz.func467 (by kernel_rfl) (by kernel_rfl) (by kernel_rfl) .i32 (by kernel_rfl)
def Trye408 : FuncId → Option Fun := fun f => match Nat.beq f 461 with | true => some TryF461 | false => match Nat.beq f 463 with | true => some TryF463 | false => match Nat.beq f 466 with | true => some TryF466 | false => match Nat.beq f 467 with | true => some TryF467 | false => none
def Tryp408 : Plans := fun id => none
def TryF408 : Fun := funX Tryz.prog TryG (fun _ => true) Trye408 Tryp408 lf Tryz.f408
theorem Tryc408 : CallOk Tryz.prog TryG 408 TryF408 := funX_ok Trymix (callsOk_cons Tryc461 (callsOk_cons Tryc463 (callsOk_cons Tryc466 (callsOk_cons Tryc467 callsOk_0)))) Tryz.func408 (by kernel_rfl)
def Trye354 : FuncId → Option Fun := fun f => match Nat.beq f 408 with | true => some TryF408 | false => none
def Tryp354 : Plans := fun id => none
def TryF354 : Fun := funX Tryz.prog TryG (fun _ => true) Trye354 Tryp354 lf Tryz.f354
theorem Tryc354 : CallOk Tryz.prog TryG 354 TryF354 := funX_ok Trymix (callsOk_cons Tryc408 callsOk_0) Tryz.func354 (by kernel_rfl)
theorem Tryb354 : DCallOk Tryz.prog TryG 354 TryF354 := (funX_body Trymix (callsOk_cons Tryc408 callsOk_0) Tryz.func354 (by kernel_rfl)).deferred
def Trye264 : FuncId → Option Fun := fun f => match Nat.beq f 210 with | true => some TryF210 | false => match Nat.beq f 263 with | true => some TryF263 | false => match Nat.beq f 353 with | true => some TryF353 | false => none
def Tryp264 : Plans := fun id => none
def Tryd264 : FuncId → Option Fun := fun f => match Nat.beq f 354 with | true => some TryF354 | false => match Nat.beq f 355 with | true => some TryF355 | false => none
def TryF264 : Fun := funXT Tryz.prog TryG (fun _ => true) Trye264 Tryd264 Tryp264 lf Tryz.f264
theorem Tryc264 : CallOk Tryz.prog TryG 264 TryF264 := funXT_ok Trymix (callsOk_cons Tryc210 (callsOk_cons Tryc263 (callsOk_cons Tryc353 callsOk_0))) (dcallsOk_cons Tryb354 (dcallsOk_cons Tryb355 dcallsOk_0)) Tryz.func264 (by kernel_rfl)
def Trye209 : FuncId → Option Fun := fun f => match Nat.beq f 263 with | true => some TryF263 | false => match Nat.beq f 264 with | true => some TryF264 | false => none
def Tryp209 : Plans := fun id => none
def TryF209 : Fun := funX Tryz.prog TryG (fun _ => true) Trye209 Tryp209 lf Tryz.f209
theorem Tryc209 : CallOk Tryz.prog TryG 209 TryF209 := funX_ok Trymix (callsOk_cons Tryc263 (callsOk_cons Tryc264 callsOk_0)) Tryz.func209 (by kernel_rfl)
def Trye147 : FuncId → Option Fun := fun f => match Nat.beq f 209 with | true => some TryF209 | false => none
def Tryp147 : Plans := fun id => none
def TryF147 : Fun := funX Tryz.prog TryG (fun _ => true) Trye147 Tryp147 lf Tryz.f147
theorem Tryc147 : CallOk Tryz.prog TryG 147 TryF147 := funX_ok Trymix (callsOk_cons Tryc209 callsOk_0) Tryz.func147 (by kernel_rfl)
def Trye538 : FuncId → Option Fun := fun f => none
def Tryp538 : Plans := fun id => match Nat.beq id 4 with | true => some ([0, 0, 3, 7, 15, 15, 15, 111, 239, 15, 15, 1039, 3599, 7695, 16383, 32767, 65535], [(0, .pure), (1, .pure), (2, .pure), (3, .pure), (4, .pure), (5, .pure), (6, .pure), (7, .pure), (8, .read 0), (9, .pure), (10, .pure), (11, .pure), (12, .pure), (13, .read 0), (14, .heavy), (15, .pure), (16, .pure)]) | false => match Nat.beq id 6 with | true => some ([0, 0, 0, 0, 8, 0, 0, 64, 224, 480, 0, 0, 3072, 7168, 16355, 32739, 65535, 131071], [(0, .pure), (1, .pure), (5, .pure), (6, .pure), (7, .pure), (8, .pure), (9, .read 0), (10, .pure), (11, .pure), (12, .pure), (13, .read 0), (14, .pure), (15, .heavy), (2, .pure), (3, .pure), (4, .pure), (16, .pure), (17, .heavy)]) | false => none
def TryF538 : Fun := funX Tryz.prog TryG (fun _ => true) Trye538 Tryp538 lf Tryz.f538
theorem Tryc538 : CallOk Tryz.prog TryG 538 TryF538 := funX_ok Trymix callsOk_0 Tryz.func538 (by kernel_rfl)
def Trye498 : FuncId → Option Fun := fun f => match Nat.beq f 538 with | true => some TryF538 | false => none
def Tryp498 : Plans := fun id => none
def TryF498 : Fun := funX Tryz.prog TryG (fun _ => true) Trye498 Tryp498 lf Tryz.f498
theorem Tryc498 : CallOk Tryz.prog TryG 498 TryF498 := funX_ok Trymix (callsOk_cons Tryc538 callsOk_0) Tryz.func498 (by kernel_rfl)
def Trye445 : FuncId → Option Fun := fun f => match Nat.beq f 498 with | true => some TryF498 | false => none
def Tryp445 : Plans := fun id => none
def TryF445 : Fun := funX Tryz.prog TryG (fun _ => true) Trye445 Tryp445 lf Tryz.f445
theorem Tryc445 : CallOk Tryz.prog TryG 445 TryF445 := funX_ok Trymix (callsOk_cons Tryc498 callsOk_0) Tryz.func445 (by kernel_rfl)
def Trye378 : FuncId → Option Fun := fun f => match Nat.beq f 441 with | true => some TryF441 | false => match Nat.beq f 445 with | true => some TryF445 | false => none
def Tryp378 : Plans := fun id => match Nat.beq id 9 with | true => some ([0, 1, 3, 0, 8, 31, 63, 7, 255, 511, 1023], [(0, .pure), (1, .read 0), (2, .heavy), (3, .pure), (4, .read 1), (5, .heavy), (6, .heavy), (7, .pure), (8, .heavy), (9, .pure), (10, .heavy)]) | false => none
def TryF378 : Fun := funX Tryz.prog TryG (fun _ => true) Trye378 Tryp378 lf Tryz.f378
theorem Tryc378 : CallOk Tryz.prog TryG 378 TryF378 := funX_ok Trymix (callsOk_cons Tryc441 (callsOk_cons Tryc445 callsOk_0)) Tryz.func378 (by kernel_rfl)
def Trye440 : FuncId → Option Fun := fun f => none
def Tryp440 : Plans := fun id => match Nat.beq id 1 with | true => some ([0, 0, 2, 6, 14, 0, 32, 126, 255, 511, 1023], [(1, .pure), (2, .pure), (3, .pure), (4, .read 0), (5, .read 0), (6, .alloc), (7, .heavy), (0, .pure), (8, .pure), (9, .pure), (10, .heavy)]) | false => none
def TryF440 : Fun := funX Tryz.prog TryG (fun _ => true) Trye440 Tryp440 lf Tryz.f440
theorem Tryc440 : CallOk Tryz.prog TryG 440 TryF440 := funX_ok Trymix callsOk_0 Tryz.func440 (by kernel_rfl)
def Trye375 : FuncId → Option Fun := fun f => match Nat.beq f 127 with | true => some TryF127 | false => match Nat.beq f 440 with | true => some TryF440 | false => none
def Tryp375 : Plans := fun id => none
def TryF375 : Fun := funX Tryz.prog TryG (fun _ => true) Trye375 Tryp375 lf Tryz.f375
theorem Tryc375 : CallOk Tryz.prog TryG 375 TryF375 := funX_ok Trymix (callsOk_cons Tryc127 (callsOk_cons Tryc440 callsOk_0)) Tryz.func375 (by kernel_rfl)
def Trye305 : FuncId → Option Fun := fun f => match Nat.beq f 208 with | true => some TryF208 | false => match Nat.beq f 377 with | true => some TryF377 | false => match Nat.beq f 375 with | true => some TryF375 | false => none
def Tryp305 : Plans := fun id => none
def TryF305 : Fun := funX Tryz.prog TryG (fun _ => true) Trye305 Tryp305 lf Tryz.f305
theorem Tryc305 : CallOk Tryz.prog TryG 305 TryF305 := funX_ok Trymix (callsOk_cons Tryc208 (callsOk_cons Tryc377 (callsOk_cons Tryc375 callsOk_0))) Tryz.func305 (by kernel_rfl)
def Trye11 : FuncId → Option Fun := fun f => none
def Tryp11 : Plans := fun id => none
def TryF11 : Fun := funX Tryz.prog TryG (fun _ => true) Trye11 Tryp11 lf Tryz.f11
theorem Tryc11 : CallOk Tryz.prog TryG 11 TryF11 := funX_ok Trymix callsOk_0 Tryz.func11 (by kernel_rfl)
def Trye379 : FuncId → Option Fun := fun f => none
def Tryp379 : Plans := fun id => none
def TryF379 : Fun := funX Tryz.prog TryG (fun _ => true) Trye379 Tryp379 lf Tryz.f379
theorem Tryc379 : CallOk Tryz.prog TryG 379 TryF379 := funX_ok Trymix callsOk_0 Tryz.func379 (by kernel_rfl)
def Trye306 : FuncId → Option Fun := fun f => match Nat.beq f 138 with | true => some TryF138 | false => match Nat.beq f 378 with | true => some TryF378 | false => match Nat.beq f 379 with | true => some TryF379 | false => none
def Tryp306 : Plans := fun id => none
def TryF306 : Fun := funX Tryz.prog TryG (fun _ => true) Trye306 Tryp306 lf Tryz.f306
theorem Tryc306 : CallOk Tryz.prog TryG 306 TryF306 := funX_ok Trymix (callsOk_cons Tryc138 (callsOk_cons Tryc378 (callsOk_cons Tryc379 callsOk_0))) Tryz.func306 (by kernel_rfl)
def Trye219 : FuncId → Option Fun := fun f => match Nat.beq f 134 with | true => some TryF134 | false => match Nat.beq f 135 with | true => some TryF135 | false => match Nat.beq f 136 with | true => some TryF136 | false => match Nat.beq f 274 with | true => some TryF274 | false => match Nat.beq f 279 with | true => some TryF279 | false => match Nat.beq f 284 with | true => some TryF284 | false => match Nat.beq f 304 with | true => some TryF304 | false => match Nat.beq f 305 with | true => some TryF305 | false => match Nat.beq f 306 with | true => some TryF306 | false => match Nat.beq f 307 with | true => some TryF307 | false => none
def Tryp219 : Plans := fun id => match Nat.beq id 12 with | true => some ([0, 1, 3, 0, 8, 24, 56, 0, 0, 511, 1023, 2047, 4095, 8191, 0, 32767, 65535, 0, 131072, 524287, 1048575, 0, 4194303, 8388607, 16777215, 33554431, 67108863], [(0, .heavy), (1, .heavy), (2, .heavy), (3, .pure), (4, .pure), (5, .pure), (6, .read 3), (7, .read 3), (8, .pure), (9, .heavy), (10, .heavy), (11, .heavy), (12, .heavy), (13, .heavy), (14, .pure), (15, .heavy), (16, .heavy), (17, .pure), (18, .pure), (19, .heavy), (20, .heavy), (21, .pure), (22, .heavy), (23, .alloc), (24, .heavy), (25, .heavy), (26, .pure)]) | false => none
def TryF219 : Fun := funX Tryz.prog TryG (fun _ => true) Trye219 Tryp219 lf Tryz.f219
theorem Tryc219 : CallOk Tryz.prog TryG 219 TryF219 := funX_ok Trymix (callsOk_cons Tryc134 (callsOk_cons Tryc135 (callsOk_cons Tryc136 (callsOk_cons Tryc274 (callsOk_cons Tryc279 (callsOk_cons Tryc284 (callsOk_cons Tryc304 (callsOk_cons Tryc305 (callsOk_cons Tryc306 (callsOk_cons Tryc307 callsOk_0)))))))))) Tryz.func219 (by kernel_rfl)
def Trye220 : FuncId → Option Fun := fun f => match Nat.beq f 134 with | true => some TryF134 | false => match Nat.beq f 135 with | true => some TryF135 | false => match Nat.beq f 136 with | true => some TryF136 | false => match Nat.beq f 144 with | true => some TryF144 | false => match Nat.beq f 274 with | true => some TryF274 | false => match Nat.beq f 278 with | true => some TryF278 | false => match Nat.beq f 279 with | true => some TryF279 | false => match Nat.beq f 304 with | true => some TryF304 | false => match Nat.beq f 305 with | true => some TryF305 | false => match Nat.beq f 306 with | true => some TryF306 | false => match Nat.beq f 307 with | true => some TryF307 | false => match Nat.beq f 308 with | true => some TryF308 | false => match Nat.beq f 310 with | true => some TryF310 | false => none
def Tryp220 : Plans := fun id => match Nat.beq id 19 with | true => some ([0, 1, 0, 0, 8, 28, 60, 0, 128, 508, 1020, 2044, 4092, 8191, 16383, 32767], [(2, .heavy), (3, .pure), (4, .read 1), (5, .heavy), (6, .heavy), (7, .pure), (8, .read 3), (9, .heavy), (10, .alloc), (11, .heavy), (0, .pure), (1, .read 5), (12, .alloc), (13, .heavy), (14, .pure), (15, .heavy)]) | false => match Nat.beq id 21 with | true => some ([0, 1, 3, 0, 15, 31, 0, 64, 192, 448, 0, 0, 4095, 8191, 16383, 0, 32768, 131071, 262143, 0, 1048575, 2097151, 0, 8388607, 16777215, 33554431, 67108863], [(0, .heavy), (1, .heavy), (2, .heavy), (3, .read 3), (4, .heavy), (5, .heavy), (6, .pure), (7, .pure), (8, .pure), (9, .read 5), (10, .read 5), (11, .pure), (12, .heavy), (13, .heavy), (14, .heavy), (15, .pure), (16, .pure), (17, .heavy), (18, .heavy), (19, .pure), (20, .heavy), (21, .heavy), (22, .read 12), (23, .alloc), (24, .heavy), (25, .heavy), (26, .pure)]) | false => none
def TryF220 : Fun := funX Tryz.prog TryG (fun _ => true) Trye220 Tryp220 lf Tryz.f220
theorem Tryc220 : CallOk Tryz.prog TryG 220 TryF220 := funX_ok Trymix (callsOk_cons Tryc134 (callsOk_cons Tryc135 (callsOk_cons Tryc136 (callsOk_cons Tryc144 (callsOk_cons Tryc274 (callsOk_cons Tryc278 (callsOk_cons Tryc279 (callsOk_cons Tryc304 (callsOk_cons Tryc305 (callsOk_cons Tryc306 (callsOk_cons Tryc307 (callsOk_cons Tryc308 (callsOk_cons Tryc310 callsOk_0))))))))))))) Tryz.func220 (by kernel_rfl)
def Trye146 : FuncId → Option Fun := fun f => match Nat.beq f 208 with | true => some TryF208 | false => match Nat.beq f 211 with | true => some TryF211 | false => match Nat.beq f 219 with | true => some TryF219 | false => match Nat.beq f 220 with | true => some TryF220 | false => none
def Tryp146 : Plans := fun id => none
def TryF146 : Fun := funX Tryz.prog TryG (fun _ => true) Trye146 Tryp146 lf Tryz.f146
theorem Tryc146 : CallOk Tryz.prog TryG 146 TryF146 := funX_ok Trymix (callsOk_cons Tryc208 (callsOk_cons Tryc211 (callsOk_cons Tryc219 (callsOk_cons Tryc220 callsOk_0)))) Tryz.func146 (by kernel_rfl)
def Trye56 : FuncId → Option Fun := fun f => match Nat.beq f 145 with | true => some TryF145 | false => match Nat.beq f 146 with | true => some TryF146 | false => match Nat.beq f 147 with | true => some TryF147 | false => match Nat.beq f 134 with | true => some TryF134 | false => match Nat.beq f 135 with | true => some TryF135 | false => none
def Tryp56 : Plans := fun id => match Nat.beq id 4 with | true => some ([0, 0, 2, 6, 0, 0, 63, 127, 255], [(0, .pure), (1, .pure), (2, .pure), (3, .pure), (4, .pure), (5, .read 0), (6, .pure), (7, .alloc), (8, .pure)]) | false => match Nat.beq id 5 with | true => some ([0, 0, 2, 0, 8, 0, 32, 120, 255, 511, 1023, 1023, 2047, 8191], [(3, .pure), (4, .heavy), (0, .pure), (1, .pure), (2, .read 1), (5, .pure), (6, .read 1), (7, .read 0), (8, .heavy), (9, .pure), (10, .pure), (12, .heavy), (11, .pure), (13, .pure)]) | false => match Nat.beq id 7 with | true => some ([0, 0, 3, 7, 15, 0, 32, 127, 255], [(0, .heavy), (1, .pure), (2, .heavy), (3, .alloc), (4, .heavy), (5, .pure), (6, .read 3), (7, .pure), (8, .heavy)]) | false => none
def TryF56 : Fun := funX Tryz.prog TryG (fun _ => true) Trye56 Tryp56 lf Tryz.f56
theorem Tryc56 : CallOk Tryz.prog TryG 56 TryF56 := funX_ok Trymix (callsOk_cons Tryc145 (callsOk_cons Tryc146 (callsOk_cons Tryc147 (callsOk_cons Tryc134 (callsOk_cons Tryc135 callsOk_0))))) Tryz.func56 (by kernel_rfl)
def Trye24 : FuncId → Option Fun := fun f => match Nat.beq f 50 with | true => some TryF50 | false => match Nat.beq f 52 with | true => some TryF52 | false => match Nat.beq f 53 with | true => some TryF53 | false => match Nat.beq f 54 with | true => some TryF54 | false => match Nat.beq f 55 with | true => some TryF55 | false => match Nat.beq f 56 with | true => some TryF56 | false => none
def Tryp24 : Plans := fun id => match Nat.beq id 6 with | true => some ([0, 1, 0, 4, 12, 28, 60, 127, 0, 256, 768, 1792, 3840, 8191, 0, 16639, 65535], [(0, .pure), (1, .heavy), (2, .pure), (3, .pure), (4, .pure), (5, .pure), (6, .read 1), (7, .heavy), (8, .pure), (9, .pure), (10, .pure), (11, .pure), (12, .read 2), (13, .pure), (14, .alloc), (15, .pure), (16, .heavy)]) | false => none
def TryF24 : Fun := funX Tryz.prog TryG (fun _ => true) Trye24 Tryp24 lf Tryz.f24
theorem Tryc24 : CallOk Tryz.prog TryG 24 TryF24 := funX_ok Trymix (callsOk_cons Tryc50 (callsOk_cons Tryc52 (callsOk_cons Tryc53 (callsOk_cons Tryc54 (callsOk_cons Tryc55 (callsOk_cons Tryc56 callsOk_0)))))) Tryz.func24 (by kernel_rfl)
def Trye7 : FuncId → Option Fun := fun f => match Nat.beq f 17 with | true => some TryF17 | false => match Nat.beq f 23 with | true => some TryF23 | false => match Nat.beq f 24 with | true => some TryF24 | false => match Nat.beq f 25 with | true => some TryF25 | false => none
def Tryp7 : Plans := fun id => match Nat.beq id 5 with | true => some ([0, 1, 3, 7, 15, 31, 63, 127, 0, 256, 768, 1792, 3840, 7936, 16128, 255, 65535], [(0, .pure), (1, .read 0), (2, .pure), (3, .pure), (4, .read 0), (5, .pure), (6, .pure), (7, .read 0), (8, .pure), (9, .read 0), (10, .pure), (11, .pure), (12, .read 0), (13, .pure), (14, .read 0), (15, .pure), (16, .heavy)]) | false => none
def TryF7 : Fun := funX Tryz.prog TryG (fun _ => true) Trye7 Tryp7 lf Tryz.f7
theorem Tryc7 : CallOk Tryz.prog TryG 7 TryF7 := funX_ok Trymix (callsOk_cons Tryc17 (callsOk_cons Tryc23 (callsOk_cons Tryc24 (callsOk_cons Tryc25 callsOk_0)))) Tryz.func7 (by kernel_rfl)
def Trye12 : FuncId → Option Fun := fun f => match Nat.beq f 6 with | true => some TryF6 | false => match Nat.beq f 7 with | true => some TryF7 | false => match Nat.beq f 8 with | true => some TryF8 | false => match Nat.beq f 10 with | true => some TryF10 | false => match Nat.beq f 18 with | true => some TryF18 | false => match Nat.beq f 19 with | true => some TryF19 | false => match Nat.beq f 21 with | true => some TryF21 | false => match Nat.beq f 26 with | true => some TryF26 | false => match Nat.beq f 27 with | true => some TryF27 | false => none
def Tryp12 : Plans := fun id => match Nat.beq id 6 with | true => some ([0, 1, 3, 7, 7, 23, 55, 119, 255, 511, 1023], [(0, .pure), (1, .pure), (2, .pure), (4, .heavy), (5, .heavy), (6, .alloc), (7, .heavy), (3, .read 3), (8, .heavy), (9, .pure), (10, .pure)]) | false => none
def TryF12 : Fun := funX Tryz.prog TryG (fun _ => true) Trye12 Tryp12 lf Tryz.f12
theorem Tryc12 : CallOk Tryz.prog TryG 12 TryF12 := funX_ok Trymix (callsOk_cons Tryc6 (callsOk_cons Tryc7 (callsOk_cons Tryc8 (callsOk_cons Tryc10 (callsOk_cons Tryc18 (callsOk_cons Tryc19 (callsOk_cons Tryc21 (callsOk_cons Tryc26 (callsOk_cons Tryc27 callsOk_0))))))))) Tryz.func12 (by kernel_rfl)
end Go.Proofs.Jm
