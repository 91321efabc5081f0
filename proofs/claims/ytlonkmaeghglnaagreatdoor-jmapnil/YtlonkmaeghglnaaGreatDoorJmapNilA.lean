/- Part of the value machine, or of a walk by it: lemmas that the claim's last text uses. No conditions. -/
import Derived.Test.YtlonkmaeghglnaaGreatDoorChecked
import Derived.KernelRfl
import Derived.Test.YtlonkmaeghglnaaGreatDoorVmE
import Derived.Test.YtlonkmaeghglnaaGreatDoorVmH
set_option linter.unusedVariables false
set_option linter.unusedSimpArgs false
set_option linter.unnecessarySimpa false
noncomputable section
namespace Go.Proofs.YtlonkmaeghglnaaGreatDoor
open Go Go.Proofs Go.Vm
set_option linter.unusedVariables false
set_option maxRecDepth 100000
set_option maxHeartbeats 4000000
theorem Tryzmix : Tryz.prog.follows .mixedOrders = true := Tryz.checked.mixed
def TryzG : Nat := 6
/-! together: [(16, pillarbox/pillarboxref7.Same)] -/
def Tryzp16 : Plans := fun id => match Nat.beq id 6 with | true => some ([0, 1, 0, 7, 15, 0, 32, 0, 224, 480, 1023], [(0, .pure), (1, .read 0), (2, .pure), (3, .pure), (4, .read 0), (5, .pure), (6, .read 0), (7, .pure), (8, .pure), (9, .read 0), (10, .pure)]) | false => match Nat.beq id 11 with | true => some ([0, 1, 0, 7, 15, 0, 32, 0, 224, 480, 1023, 2047], [(0, .pure), (1, .read 0), (2, .pure), (3, .pure), (4, .read 0), (5, .pure), (6, .read 0), (7, .pure), (8, .pure), (9, .read 0), (10, .heavy), (11, .pure)]) | false => none
def Tryzs16 (e : FuncId → Option Fun) : FuncId → Option Fun := fun f => match Nat.beq f 16 with | true => some (funX Tryz.prog TryzG (fun _ => true) (fun f => e f) Tryzp16 lf Tryz.f16) | false => none
theorem Tryzso16 (e : FuncId → Option Fun) (he : ∀ f F, e f = some F → CallOk Tryz.prog TryzG f F) : ∀ f F, Tryzs16 e f = some F → CallOk Tryz.prog TryzG f F := callsOk_cons (funX_ok Tryzmix he Tryz.func16 (by kernel_rfl)) (callsOk_0)
def TryzF16 : Fun := pickF (levels (fun _ => none) Tryzs16 40) 16
theorem Tryzc16 : CallOk Tryz.prog TryzG 16 TryzF16 := pickF_ok (levels_ok callsOk_0 Tryzso16 40) 16

/-! 6: pillarbox/jmap.New -/
def Tryze6 : FuncId → Option Fun := fun f => none
def Tryzp6 : Plans := fun id => none
def TryzF6 : Fun := funX Tryz.prog TryzG (fun _ => true) Tryze6 Tryzp6 lf Tryz.f6
theorem Tryzc6 : CallOk Tryz.prog TryzG 6 TryzF6 := funX_ok Tryzmix callsOk_0 Tryz.func6 (by kernel_rfl)

/-! 8: pillarbox/pillarboxref17.Has -/
def Tryze8 : FuncId → Option Fun := fun f => none
def Tryzp8 : Plans := fun id => none
def TryzF8 : Fun := funX Tryz.prog TryzG (fun _ => true) Tryze8 Tryzp8 lf Tryz.f8
theorem Tryzc8 : CallOk Tryz.prog TryzG 8 TryzF8 := funX_ok Tryzmix callsOk_0 Tryz.func8 (by kernel_rfl)

/-! 10: pillarbox/pillarboxlaw18.Wide -/
def Tryze10 : FuncId → Option Fun := fun f => none
def Tryzp10 : Plans := fun id => none
def TryzF10 : Fun := funX Tryz.prog TryzG (fun _ => true) Tryze10 Tryzp10 lf Tryz.f10
theorem Tryzc10 : CallOk Tryz.prog TryzG 10 TryzF10 := funX_ok Tryzmix callsOk_0 Tryz.func10 (by kernel_rfl)

/-! 11: pillarbox/pillarboxlaw3.Num -/
def Tryze11 : FuncId → Option Fun := fun f => none
def Tryzp11 : Plans := fun id => none
def TryzF11 : Fun := funX Tryz.prog TryzG (fun _ => true) Tryze11 Tryzp11 lf Tryz.f11
theorem Tryzc11 : CallOk Tryz.prog TryzG 11 TryzF11 := funX_ok Tryzmix callsOk_0 Tryz.func11 (by kernel_rfl)

/-! 13: pillarbox/pillarboxref26.Obj -/
def Tryze13 : FuncId → Option Fun := fun f => none
def Tryzp13 : Plans := fun id => match Nat.beq id 5 with | true => some ([0, 1, 0, 0, 12, 28, 60, 124, 255, 511, 1023], [(0, .pure), (1, .read 0), (2, .pure), (3, .pure), (4, .pure), (5, .pure), (6, .read 0), (7, .alloc), (8, .heavy), (9, .pure), (10, .heavy)]) | false => match Nat.beq id 6 with | true => some ([0, 1, 0, 0, 8, 28, 60, 124, 255, 511, 1023], [(0, .pure), (1, .read 0), (2, .pure), (3, .pure), (4, .pure), (5, .pure), (6, .read 0), (7, .alloc), (8, .heavy), (9, .pure), (10, .heavy)]) | false => none
def TryzF13 : Fun := funX Tryz.prog TryzG (fun _ => true) Tryze13 Tryzp13 lf Tryz.f13
theorem Tryzc13 : CallOk Tryz.prog TryzG 13 TryzF13 := funX_ok Tryzmix callsOk_0 Tryz.func13 (by kernel_rfl)

/-! 14: pillarbox/pillarboxref26.Str -/
def Tryze14 : FuncId → Option Fun := fun f => none
def Tryzp14 : Plans := fun id => none
def TryzF14 : Fun := funX Tryz.prog TryzG (fun _ => true) Tryze14 Tryzp14 lf Tryz.f14
theorem Tryzc14 : CallOk Tryz.prog TryzG 14 TryzF14 := funX_ok Tryzmix callsOk_0 Tryz.func14 (by kernel_rfl)

/-! 15: pillarbox/pillarboxref26.Num -/
def Tryze15 : FuncId → Option Fun := fun f => none
def Tryzp15 : Plans := fun id => none
def TryzF15 : Fun := funX Tryz.prog TryzG (fun _ => true) Tryze15 Tryzp15 lf Tryz.f15
theorem Tryzc15 : CallOk Tryz.prog TryzG 15 TryzF15 := funX_ok Tryzmix callsOk_0 Tryz.func15 (by kernel_rfl)

/-! 22: slices.Clone[[]pillarbox/jmap.remembered,pillarbox/jmap.remembered] -/
def Tryze22 : FuncId → Option Fun := fun f => none
def Tryzp22 : Plans := fun id => none
def TryzF22 : Fun := funX Tryz.prog TryzG (fun _ => true) Tryze22 Tryzp22 lf Tryz.f22
theorem Tryzc22 : CallOk Tryz.prog TryzG 22 TryzF22 := funX_ok Tryzmix callsOk_0 Tryz.func22 (by kernel_rfl)

/-! 28: pillarbox/log.New -/
def Tryze28 : FuncId → Option Fun := fun f => none
def Tryzp28 : Plans := fun id => none
def TryzF28 : Fun := funX Tryz.prog TryzG (fun _ => true) Tryze28 Tryzp28 lf Tryz.f28
theorem Tryzc28 : CallOk Tryz.prog TryzG 28 TryzF28 := funX_ok Tryzmix callsOk_0 Tryz.func28 (by kernel_rfl)

/-! 32: pillarbox/pillarboxref7.Find -/
def Tryze32 : FuncId → Option Fun := fun f => none
def Tryzp32 : Plans := fun id => none
def TryzF32 : Fun := funX Tryz.prog TryzG (fun _ => true) Tryze32 Tryzp32 lf Tryz.f32
theorem Tryzc32 : CallOk Tryz.prog TryzG 32 TryzF32 := funX_ok Tryzmix callsOk_0 Tryz.func32 (by kernel_rfl)

/-! 33: pillarbox/pillarboxref1.Atom -/
def Tryze33 : FuncId → Option Fun := fun f => none
def Tryzp33 : Plans := fun id => none
def TryzF33 : Fun := funX Tryz.prog TryzG (fun _ => true) Tryze33 Tryzp33 lf Tryz.f33
theorem Tryzc33 : CallOk Tryz.prog TryzG 33 TryzF33 := funX_ok Tryzmix callsOk_0 Tryz.func33 (by kernel_rfl)

/-! 17: pillarbox/pillarboxref17.New -/
def Tryze17 : FuncId → Option Fun := fun f => match Nat.beq f 33 with | true => some TryzF33 | false => none
def Tryzp17 : Plans := fun id => none
def TryzF17 : Fun := funX Tryz.prog TryzG (fun _ => true) Tryze17 Tryzp17 lf Tryz.f17
theorem Tryzc17 : CallOk Tryz.prog TryzG 17 TryzF17 := funX_ok Tryzmix (callsOk_cons Tryzc33 callsOk_0) Tryz.func17 (by kernel_rfl)

/-! 60: (*pillarbox/store.Store).Mails -/
def Tryze60 : FuncId → Option Fun := fun f => none
def Tryzp60 : Plans := fun id => none
def TryzF60 : Fun := funX Tryz.prog TryzG (fun _ => true) Tryze60 Tryzp60 lf Tryz.f60
theorem Tryzc60 : CallOk Tryz.prog TryzG 60 TryzF60 := funX_ok Tryzmix callsOk_0 Tryz.func60 (by kernel_rfl)

/-! 66: (*strings.Builder).String -/
def Tryze66 : FuncId → Option Fun := fun f => none
def Tryzp66 : Plans := fun id => match Nat.beq id 1 with | true => some ([0, 1, 3, 7, 15, 0, 32, 96, 224, 480, 1023, 2047], [(0, .pure), (1, .pure), (2, .pure), (3, .read 0), (4, .heavy), (5, .pure), (6, .pure), (7, .pure), (8, .read 1), (9, .pure), (10, .heavy), (11, .pure)]) | false => none
def TryzF66 : Fun := funX Tryz.prog TryzG (fun _ => true) Tryze66 Tryzp66 lf Tryz.f66
theorem Tryzc66 : CallOk Tryz.prog TryzG 66 TryzF66 := funX_ok Tryzmix callsOk_0 Tryz.func66 (by kernel_rfl)

/-! 56: pillarbox/call.Obj -/
def Tryze56 : FuncId → Option Fun := fun f => none
def Tryzp56 : Plans := fun id => match Nat.beq id 5 with | true => some ([0, 1, 0, 0, 12, 28, 60, 124, 255, 511, 1023], [(0, .pure), (1, .read 0), (2, .pure), (3, .pure), (4, .pure), (5, .pure), (6, .read 0), (7, .alloc), (8, .heavy), (9, .pure), (10, .heavy)]) | false => match Nat.beq id 6 with | true => some ([0, 1, 0, 0, 8, 28, 60, 124, 255, 511, 1023], [(0, .pure), (1, .read 0), (2, .pure), (3, .pure), (4, .pure), (5, .pure), (6, .read 0), (7, .alloc), (8, .heavy), (9, .pure), (10, .heavy)]) | false => none
def TryzF56 : Fun := funX Tryz.prog TryzG (fun _ => true) Tryze56 Tryzp56 lf Tryz.f56
theorem Tryzc56 : CallOk Tryz.prog TryzG 56 TryzF56 := funX_ok Tryzmix callsOk_0 Tryz.func56 (by kernel_rfl)

/-! 57: pillarbox/jmap.str -/
def Tryze57 : FuncId → Option Fun := fun f => none
def Tryzp57 : Plans := fun id => none
def TryzF57 : Fun := funX Tryz.prog TryzG (fun _ => true) Tryze57 Tryzp57 lf Tryz.f57
theorem Tryzc57 : CallOk Tryz.prog TryzG 57 TryzF57 := funX_ok Tryzmix callsOk_0 Tryz.func57 (by kernel_rfl)

/-! 67: pillarbox/jmap.arr -/
def Tryze67 : FuncId → Option Fun := fun f => none
def Tryzp67 : Plans := fun id => none
def TryzF67 : Fun := funX Tryz.prog TryzG (fun _ => true) Tryze67 Tryzp67 lf Tryz.f67
theorem Tryzc67 : CallOk Tryz.prog TryzG 67 TryzF67 := funX_ok Tryzmix callsOk_0 Tryz.func67 (by kernel_rfl)

/-! 24: pillarbox/jmap.answer -/
def Tryze24 : FuncId → Option Fun := fun f => match Nat.beq f 56 with | true => some TryzF56 | false => match Nat.beq f 57 with | true => some TryzF57 | false => match Nat.beq f 67 with | true => some TryzF67 | false => none
def Tryzp24 : Plans := fun id => match Nat.beq id 5 with | true => some ([0, 1, 0, 4, 12, 0, 32, 0, 128, 412, 1020, 2044, 4092, 8191, 16383, 32767], [(2, .pure), (3, .read 0), (4, .heavy), (7, .pure), (8, .read 1), (9, .heavy), (5, .pure), (6, .read 2), (10, .alloc), (11, .heavy), (0, .pure), (1, .read 3), (12, .alloc), (13, .heavy), (14, .pure), (15, .heavy)]) | false => match Nat.beq id 7 with | true => some ([0, 0, 1, 5, 15, 31, 63], [(0, .heavy), (2, .heavy), (3, .heavy), (1, .read 3), (4, .alloc), (5, .heavy), (6, .heavy)]) | false => none
def TryzF24 : Fun := funX Tryz.prog TryzG (fun _ => true) Tryze24 Tryzp24 lf Tryz.f24
theorem Tryzc24 : CallOk Tryz.prog TryzG 24 TryzF24 := funX_ok Tryzmix (callsOk_cons Tryzc56 (callsOk_cons Tryzc57 (callsOk_cons Tryzc67 callsOk_0))) Tryz.func24 (by kernel_rfl)

/-! 72: sync/atomic.StoreInt64 -/
def TryzF72 : Fun := atomStore
theorem Tryzc72 : CallOk Tryz.prog TryzG 72 TryzF72 := atomStore_ok Tryz.func72 (by kernel_rfl) (by kernel_rfl) (by kernel_rfl) (by kernel_rfl)

/-! 29: (*sync/atomic.Int64).Store -/
def Tryze29 : FuncId → Option Fun := fun f => match Nat.beq f 72 with | true => some TryzF72 | false => none
def Tryzp29 : Plans := fun id => none
def TryzF29 : Fun := funX Tryz.prog TryzG (fun _ => true) Tryze29 Tryzp29 lf Tryz.f29
theorem Tryzc29 : CallOk Tryz.prog TryzG 29 TryzF29 := funX_ok Tryzmix (callsOk_cons Tryzc72 callsOk_0) Tryz.func29 (by kernel_rfl)

/-! 74: (*pillarbox/pillarboxref7.reader).blanks -/
def Tryze74 : FuncId → Option Fun := fun f => none
def Tryzp74 : Plans := fun id => match Nat.beq id 0 with | true => some ([0, 1, 3, 7, 0, 16, 48, 112, 240, 511, 1023, 2047, 4095, 8191, 16383, 2047, 34815, 100351, 231423, 524287, 1048575, 2097151, 4194303, 8388607, 16777215, 33554431, 4194303, 71303167, 205520895, 473956351, 1073741823, 2147483647, 4294967295, 8589934591, 17179869183, 34359738367, 68719476735, 137438953471, 17179869183, 292057776127, 841813590015, 1941325217791, 4398046511103, 8796093022207, 17592186044415, 35184372088831, 70368744177663, 140737488355327, 281474976710655, 562949953421311, 70368744177663, 1196268651020287, 3448068464705535, 7951668092076031, 18014398509481983, 36028797018963967, 72057594037927935, 144115188075855871], [(0, .pure), (1, .pure), (2, .pure), (3, .read 0), (4, .pure), (5, .pure), (6, .pure), (7, .read 0), (8, .pure), (9, .pure), (10, .pure), (11, .pure), (12, .pure), (13, .pure), (14, .read 0), (15, .pure), (16, .pure), (17, .pure), (18, .read 0), (19, .pure), (20, .pure), (21, .pure), (22, .pure), (23, .pure), (24, .pure), (25, .read 0), (26, .pure), (27, .pure), (28, .pure), (29, .read 0), (30, .pure), (31, .pure), (32, .pure), (33, .pure), (34, .pure), (35, .pure), (36, .pure), (37, .read 0), (38, .pure), (39, .pure), (40, .pure), (41, .read 0), (42, .pure), (43, .pure), (44, .pure), (45, .pure), (46, .pure), (47, .pure), (48, .pure), (49, .read 0), (50, .pure), (51, .pure), (52, .pure), (53, .read 0), (54, .pure), (55, .pure), (56, .pure), (57, .pure)]) | false => none
def TryzF74 : Fun := funX Tryz.prog TryzG (fun _ => true) Tryze74 Tryzp74 lf Tryz.f74
theorem Tryzc74 : CallOk Tryz.prog TryzG 74 TryzF74 := funX_ok Tryzmix callsOk_0 Tryz.func74 (by kernel_rfl)

/-! 76: pillarbox/pillarboxref26.Arr -/
def Tryze76 : FuncId → Option Fun := fun f => none
def Tryzp76 : Plans := fun id => none
def TryzF76 : Fun := funX Tryz.prog TryzG (fun _ => true) Tryze76 Tryzp76 lf Tryz.f76
theorem Tryzc76 : CallOk Tryz.prog TryzG 76 TryzF76 := funX_ok Tryzmix callsOk_0 Tryz.func76 (by kernel_rfl)

/-! 136: pillarbox/json.Parse$1 RECOVERS -/
def TryzF136 : Fun := recF
theorem Tryzb136 : DCallOk Tryz.prog TryzG 136 TryzF136 := by
  refine recF_ok (s := 3) (t := 4) Tryz.func136 (by kernel_rfl) rfl rfl rfl (fun _ _ => rfl) rfl rfl (fun ρ w hc h => ?_) (of_decide_eq_true (by kernel_rfl)) (of_decide_eq_true (by kernel_rfl)) rfl
  have h2 := hc .nilIface
  simp only [execOp, h, h2]
  simp [eqGuard, binOp]
  rw [show (Op.equal 20 Value.nilIface Value.nilIface).run Tryz.prog w = .ok true w by rfl]
  rfl

/-! 137: (*pillarbox/json.reader).blanks -/
def Tryze137 : FuncId → Option Fun := fun f => none
def Tryzp137 : Plans := fun id => match Nat.beq id 0 with | true => some ([0, 1, 3, 7, 0, 16, 48, 112, 240, 511], [(0, .pure), (1, .pure), (2, .pure), (3, .read 0), (4, .pure), (5, .pure), (6, .pure), (7, .read 0), (8, .pure), (9, .pure)]) | false => match Nat.beq id 1 with | true => some ([0, 1, 3, 7, 0, 16, 48, 112, 255], [(0, .pure), (1, .pure), (2, .pure), (3, .read 0), (4, .pure), (5, .pure), (6, .pure), (7, .read 0), (8, .pure)]) | false => none
def TryzF137 : Fun := funX Tryz.prog TryzG (fun _ => true) Tryze137 Tryzp137 lf Tryz.f137
theorem Tryzc137 : CallOk Tryz.prog TryzG 137 TryzF137 := funX_ok Tryzmix callsOk_0 Tryz.func137 (by kernel_rfl)

/-! 140: slices.Index[[]string,string] -/
def Tryze140 : FuncId → Option Fun := fun f => none
def Tryzp140 : Plans := fun id => none
def TryzF140 : Fun := funX Tryz.prog TryzG (fun _ => true) Tryze140 Tryzp140 lf Tryz.f140
theorem Tryzc140 : CallOk Tryz.prog TryzG 140 TryzF140 := funX_ok Tryzmix callsOk_0 Tryz.func140 (by kernel_rfl)

/-! 116: slices.Contains[[]string,string] -/
def Tryze116 : FuncId → Option Fun := fun f => match Nat.beq f 140 with | true => some TryzF140 | false => none
def Tryzp116 : Plans := fun id => none
def TryzF116 : Fun := funX Tryz.prog TryzG (fun _ => true) Tryze116 Tryzp116 lf Tryz.f116
theorem Tryzc116 : CallOk Tryz.prog TryzG 116 TryzF116 := funX_ok Tryzmix (callsOk_cons Tryzc140 callsOk_0) Tryz.func116 (by kernel_rfl)

/-! 145: slices.Clone[[]pillarbox/api.Box,pillarbox/api.Box] -/
def Tryze145 : FuncId → Option Fun := fun f => none
def Tryzp145 : Plans := fun id => none
def TryzF145 : Fun := funX Tryz.prog TryzG (fun _ => true) Tryze145 Tryzp145 lf Tryz.f145
theorem Tryzc145 : CallOk Tryz.prog TryzG 145 TryzF145 := funX_ok Tryzmix callsOk_0 Tryz.func145 (by kernel_rfl)

/-! 59: (*pillarbox/store.Store).Boxes -/
def Tryze59 : FuncId → Option Fun := fun f => match Nat.beq f 145 with | true => some TryzF145 | false => none
def Tryzp59 : Plans := fun id => none
def TryzF59 : Fun := funX Tryz.prog TryzG (fun _ => true) Tryze59 Tryzp59 lf Tryz.f59
theorem Tryzc59 : CallOk Tryz.prog TryzG 59 TryzF59 := funX_ok Tryzmix (callsOk_cons Tryzc145 callsOk_0) Tryz.func59 (by kernel_rfl)

/-! 147: slices.Clone[[]pillarbox/api.Entry,pillarbox/api.Entry] -/
def Tryze147 : FuncId → Option Fun := fun f => none
def Tryzp147 : Plans := fun id => none
def TryzF147 : Fun := funX Tryz.prog TryzG (fun _ => true) Tryze147 Tryzp147 lf Tryz.f147
theorem Tryzc147 : CallOk Tryz.prog TryzG 147 TryzF147 := funX_ok Tryzmix callsOk_0 Tryz.func147 (by kernel_rfl)

/-! 61: (*pillarbox/log.Log).Copy -/
def Tryze61 : FuncId → Option Fun := fun f => match Nat.beq f 147 with | true => some TryzF147 | false => none
def Tryzp61 : Plans := fun id => none
def TryzF61 : Fun := funX Tryz.prog TryzG (fun _ => true) Tryze61 Tryzp61 lf Tryz.f61
theorem Tryzc61 : CallOk Tryz.prog TryzG 61 TryzF61 := funX_ok Tryzmix (callsOk_cons Tryzc147 callsOk_0) Tryz.func61 (by kernel_rfl)

/-! 148: sync/atomic.LoadInt64 -/
def TryzF148 : Fun := atomLoad .i64
theorem Tryzc148 : CallOk Tryz.prog TryzG 148 TryzF148 := atomLoad_ok Tryz.func148 (by kernel_rfl) (by kernel_rfl) (by kernel_rfl) .i64 (by kernel_rfl)

/-! 62: (*sync/atomic.Int64).Load -/
def Tryze62 : FuncId → Option Fun := fun f => match Nat.beq f 148 with | true => some TryzF148 | false => none
def Tryzp62 : Plans := fun id => none
def TryzF62 : Fun := funX Tryz.prog TryzG (fun _ => true) Tryze62 Tryzp62 lf Tryz.f62
theorem Tryzc62 : CallOk Tryz.prog TryzG 62 TryzF62 := funX_ok Tryzmix (callsOk_cons Tryzc148 callsOk_0) Tryz.func62 (by kernel_rfl)

/-! 21: (*pillarbox/store.Store).Copy -/
def Tryze21 : FuncId → Option Fun := fun f => match Nat.beq f 29 with | true => some TryzF29 | false => match Nat.beq f 59 with | true => some TryzF59 | false => match Nat.beq f 60 with | true => some TryzF60 | false => match Nat.beq f 61 with | true => some TryzF61 | false => match Nat.beq f 62 with | true => some TryzF62 | false => none
def Tryzp21 : Plans := fun id => match Nat.beq id 3 with | true => some ([0, 1, 3, 7, 0, 16, 0, 112, 0, 256, 768, 1792, 4080, 0, 8192, 24576, 57344, 0, 131072, 393216, 917504, 0, 2097152, 6291456, 14680064, 33554431, 67108863, 134217727], [(4, .pure), (5, .heavy), (6, .pure), (7, .heavy), (8, .pure), (9, .pure), (10, .pure), (11, .read 2), (12, .heavy), (0, .pure), (1, .pure), (2, .pure), (3, .read 3), (13, .pure), (14, .pure), (15, .pure), (16, .read 3), (17, .pure), (18, .pure), (19, .pure), (20, .read 3), (21, .pure), (22, .pure), (23, .pure), (24, .read 3), (25, .pure), (26, .alloc), (27, .pure)]) | false => match Nat.beq id 4 with | true => some ([0, 1, 3, 0, 8, 24, 56, 127], [(3, .pure), (4, .pure), (5, .pure), (6, .heavy), (0, .pure), (1, .pure), (2, .pure), (7, .heavy)]) | false => none
def TryzF21 : Fun := funX Tryz.prog TryzG (fun _ => true) Tryze21 Tryzp21 lf Tryz.f21
theorem Tryzc21 : CallOk Tryz.prog TryzG 21 TryzF21 := funX_ok Tryzmix (callsOk_cons Tryzc29 (callsOk_cons Tryzc59 (callsOk_cons Tryzc60 (callsOk_cons Tryzc61 (callsOk_cons Tryzc62 callsOk_0))))) Tryz.func21 (by kernel_rfl)

/-! 154: (*strings.Builder).Len -/
def Tryze154 : FuncId → Option Fun := fun f => none
def Tryzp154 : Plans := fun id => none
def TryzF154 : Fun := funX Tryz.prog TryzG (fun _ => true) Tryze154 Tryzp154 lf Tryz.f154
theorem Tryzc154 : CallOk Tryz.prog TryzG 154 TryzF154 := funX_ok Tryzmix callsOk_0 Tryz.func154 (by kernel_rfl)

/-! 65: (*pillarbox/canon.writer).full -/
def Tryze65 : FuncId → Option Fun := fun f => match Nat.beq f 154 with | true => some TryzF154 | false => none
def Tryzp65 : Plans := fun id => none
def TryzF65 : Fun := funX Tryz.prog TryzG (fun _ => true) Tryze65 Tryzp65 lf Tryz.f65
theorem Tryzc65 : CallOk Tryz.prog TryzG 65 TryzF65 := funX_ok Tryzmix (callsOk_cons Tryzc154 callsOk_0) Tryz.func65 (by kernel_rfl)

/-! 160: (*pillarbox/jmap.request).echo -/
def Tryze160 : FuncId → Option Fun := fun f => none
def Tryzp160 : Plans := fun id => none
def TryzF160 : Fun := funX Tryz.prog TryzG (fun _ => true) Tryze160 Tryzp160 lf Tryz.f160
theorem Tryzc160 : CallOk Tryz.prog TryzG 160 TryzF160 := funX_ok Tryzmix callsOk_0 Tryz.func160 (by kernel_rfl)

/-! 212: (*pillarbox/json.reader).may -/
def Tryze212 : FuncId → Option Fun := fun f => none
def Tryzp212 : Plans := fun id => match Nat.beq id 1 with | true => some ([0, 1, 3, 7, 15, 0, 32, 96, 224, 511, 0, 1024, 4095, 8191, 16383, 32767, 65535, 131071, 16383, 278527, 802815, 1851391, 16383, 4210687, 12599295, 29376511, 16383, 67125247, 264257535, 536870911, 16383, 2147483647, 4294967295], [(0, .pure), (1, .pure), (2, .pure), (3, .read 0), (4, .pure), (5, .pure), (6, .pure), (7, .pure), (8, .read 0), (9, .pure), (10, .pure), (11, .pure), (12, .pure), (13, .pure), (14, .pure), (15, .pure), (16, .pure), (17, .read 0), (18, .pure), (19, .pure), (20, .pure), (21, .read 0), (22, .pure), (23, .pure), (24, .pure), (25, .read 0), (26, .pure), (27, .pure), (28, .pure), (29, .pure), (30, .pure), (31, .pure), (32, .pure)]) | false => none
def TryzF212 : Fun := funX Tryz.prog TryzG (fun _ => true) Tryze212 Tryzp212 lf Tryz.f212
theorem Tryzc212 : CallOk Tryz.prog TryzG 212 TryzF212 := funX_ok Tryzmix callsOk_0 Tryz.func212 (by kernel_rfl)

/-! 217: (*pillarbox/json.reader).must -/
def Tryze217 : FuncId → Option Fun := fun f => match Nat.beq f 212 with | true => some TryzF212 | false => none
def Tryzp217 : Plans := fun id => none
def TryzF217 : Fun := funX Tryz.prog TryzG (fun _ => true) Tryze217 Tryzp217 lf Tryz.f217
theorem Tryzc217 : CallOk Tryz.prog TryzG 217 TryzF217 := funX_ok Tryzmix (callsOk_cons Tryzc212 callsOk_0) Tryz.func217 (by kernel_rfl)

/-! 194: slices.Clone[[]string,string] -/
def Tryze194 : FuncId → Option Fun := fun f => none
def Tryzp194 : Plans := fun id => none
def TryzF194 : Fun := funX Tryz.prog TryzG (fun _ => true) Tryze194 Tryzp194 lf Tryz.f194
theorem Tryzc194 : CallOk Tryz.prog TryzG 194 TryzF194 := funX_ok Tryzmix callsOk_0 Tryz.func194 (by kernel_rfl)

/-! together: [(141, pillarbox/canon.copied)] -/
def Tryzp141 : Plans := fun id => none
def Tryzs141 (e : FuncId → Option Fun) : FuncId → Option Fun := fun f => match Nat.beq f 141 with | true => some (funX Tryz.prog TryzG (fun _ => true) (fun f => match Nat.beq f 194 with | true => some TryzF194 | false => e f) Tryzp141 lf Tryz.f141) | false => none
theorem Tryzso141 (e : FuncId → Option Fun) (he : ∀ f F, e f = some F → CallOk Tryz.prog TryzG f F) : ∀ f F, Tryzs141 e f = some F → CallOk Tryz.prog TryzG f F := callsOk_cons (funX_ok Tryzmix (callsOk_cons Tryzc194 he) Tryz.func141 (by kernel_rfl)) (callsOk_0)
def TryzF141 : Fun := pickF (levels (fun _ => none) Tryzs141 40) 141
theorem Tryzc141 : CallOk Tryz.prog TryzG 141 TryzF141 := pickF_ok (levels_ok callsOk_0 Tryzso141 40) 141

/-! 49: pillarbox/canon.Find -/
def Tryze49 : FuncId → Option Fun := fun f => match Nat.beq f 140 with | true => some TryzF140 | false => match Nat.beq f 141 with | true => some TryzF141 | false => none
def Tryzp49 : Plans := fun id => none
def TryzF49 : Fun := funX Tryz.prog TryzG (fun _ => true) Tryze49 Tryzp49 lf Tryz.f49
theorem Tryzc49 : CallOk Tryz.prog TryzG 49 TryzF49 := funX_ok Tryzmix (callsOk_cons Tryzc140 (callsOk_cons Tryzc141 callsOk_0)) Tryz.func49 (by kernel_rfl)

/-! 157: (*pillarbox/jmap.request).arg -/
def Tryze157 : FuncId → Option Fun := fun f => match Nat.beq f 49 with | true => some TryzF49 | false => none
def Tryzp157 : Plans := fun id => match Nat.beq id 2 with | true => some ([0, 0, 2, 6, 14, 30, 62, 7, 255], [(0, .read 0), (1, .pure), (2, .pure), (7, .heavy), (3, .pure), (4, .read 1), (5, .pure), (6, .pure), (8, .pure)]) | false => none
def TryzF157 : Fun := funX Tryz.prog TryzG (fun _ => true) Tryze157 Tryzp157 lf Tryz.f157
theorem Tryzc157 : CallOk Tryz.prog TryzG 157 TryzF157 := funX_ok Tryzmix (callsOk_cons Tryzc49 callsOk_0) Tryz.func157 (by kernel_rfl)

/-! 69: (*pillarbox/jmap.request).run -/
def Tryze69 : FuncId → Option Fun := fun f => match Nat.beq f 157 with | true => some TryzF157 | false => match Nat.beq f 160 with | true => some TryzF160 | false => none
def Tryzp69 : Plans := fun id => none
def TryzF69 : Fun := funX Tryz.prog TryzG (fun _ => true) Tryze69 Tryzp69 lf Tryz.f69
theorem Tryzc69 : CallOk Tryz.prog TryzG 69 TryzF69 := funX_ok Tryzmix (callsOk_cons Tryzc157 (callsOk_cons Tryzc160 callsOk_0)) Tryz.func69 (by kernel_rfl)

/-! 143: pillarbox/call.kinds$1 -/
def Tryze143 : FuncId → Option Fun := fun f => none
def Tryzp143 : Plans := fun id => none
def TryzF143 : Fun := funX Tryz.prog TryzG (fun _ => true) Tryze143 Tryzp143 lf Tryz.f143
theorem Tryzc143 : CallOk Tryz.prog TryzG 143 TryzF143 := funX_ok Tryzmix callsOk_0 Tryz.func143 (by kernel_rfl)

/-! 142: slices.EqualFunc[[]pillarbox/api.Node,[]int,pillarbox/api.Node,int] -/
def Tryze142 : FuncId → Option Fun := fun f => match Nat.beq f 143 with | true => some TryzF143 | false => none
def Tryzp142 : Plans := fun id => none
def TryzF142 : Fun := funX Tryz.prog TryzG (fun _ => true) Tryze142 Tryzp142 lf Tryz.f142
theorem Tryzc142 : CallOk Tryz.prog TryzG 142 TryzF142 := funX_ok Tryzmix (callsOk_cons Tryzc143 callsOk_0) Tryz.func142 (by kernel_rfl)

/-! 52: pillarbox/call.kinds -/
def Tryze52 : FuncId → Option Fun := fun f => match Nat.beq f 142 with | true => some TryzF142 | false => none
def Tryzp52 : Plans := fun id => none
def TryzF52 : Fun := funX Tryz.prog TryzG (fun _ => true) Tryze52 Tryzp52 lf Tryz.f52
theorem Tryzc52 : CallOk Tryz.prog TryzG 52 TryzF52 := funX_ok Tryzmix (callsOk_cons Tryzc142 callsOk_0) Tryz.func52 (by kernel_rfl)

/-! 51: pillarbox/call.Read$2 -/
def Tryze51 : FuncId → Option Fun := fun f => match Nat.beq f 52 with | true => some TryzF52 | false => none
def Tryzp51 : Plans := fun id => none
def TryzF51 : Fun := funX Tryz.prog TryzG (fun _ => true) Tryze51 Tryzp51 lf Tryz.f51
theorem Tryzc51 : CallOk Tryz.prog TryzG 51 TryzF51 := funX_ok Tryzmix (callsOk_cons Tryzc52 callsOk_0) Tryz.func51 (by kernel_rfl)

/-! 219: pillarbox/canon.bare -/
def Tryze219 : FuncId → Option Fun := fun f => none
def Tryzp219 : Plans := fun id => none
def TryzF219 : Fun := funX Tryz.prog TryzG (fun _ => true) Tryze219 Tryzp219 lf Tryz.f219
theorem Tryzc219 : CallOk Tryz.prog TryzG 219 TryzF219 := funX_ok Tryzmix callsOk_0 Tryz.func219 (by kernel_rfl)

/-! 164: pillarbox/jmap.changes -/
def Tryze164 : FuncId → Option Fun := fun f => none
def Tryzp164 : Plans := fun id => none
def TryzF164 : Fun := funX Tryz.prog TryzG (fun _ => true) Tryze164 Tryzp164 lf Tryz.f164
theorem Tryzc164 : CallOk Tryz.prog TryzG 164 TryzF164 := funX_ok Tryzmix callsOk_0 Tryz.func164 (by kernel_rfl)

/-! 159: (*pillarbox/jmap.Server).known$1 -/
def Tryze159 : FuncId → Option Fun := fun f => match Nat.beq f 164 with | true => some TryzF164 | false => none
def Tryzp159 : Plans := fun id => match Nat.beq id 0 with | true => some ([0, 0, 2, 2, 2, 2, 0, 66, 64, 322, 320, 1346, 2, 2, 2, 2, 2, 131070, 262143, 524287, 1048575], [(6, .heavy), (8, .heavy), (10, .heavy), (0, .read 3), (1, .alloc), (2, .ins 1), (3, .ins 1), (4, .ins 1), (5, .ins 1), (7, .ins 1), (9, .ins 1), (11, .ins 1), (12, .ins 1), (13, .ins 1), (14, .ins 1), (15, .ins 1), (16, .ins 1), (17, .pure), (18, .pure), (19, .pure), (20, .heavy)]) | false => none
def TryzF159 : Fun := funX Tryz.prog TryzG (fun _ => true) Tryze159 Tryzp159 lf Tryz.f159
theorem Tryzc159 : CallOk Tryz.prog TryzG 159 TryzF159 := funX_ok Tryzmix (callsOk_cons Tryzc164 callsOk_0) Tryz.func159 (by kernel_rfl)

/-! 277: internal/bytealg.IndexByteString -/
def TryzF277 : Fun := idxF
theorem Tryzc277 : CallOk Tryz.prog TryzG 277 TryzF277 := idxF_ok Tryz.func277 (by kernel_rfl) (by kernel_rfl) (by kernel_rfl) (by kernel_rfl)

/-! 170: internal/stringslite.IndexByte -/
def Tryze170 : FuncId → Option Fun := fun f => match Nat.beq f 277 with | true => some TryzF277 | false => none
def Tryzp170 : Plans := fun id => none
def TryzF170 : Fun := funX Tryz.prog TryzG (fun _ => true) Tryze170 Tryzp170 lf Tryz.f170
theorem Tryzc170 : CallOk Tryz.prog TryzG 170 TryzF170 := funX_ok Tryzmix (callsOk_cons Tryzc277 callsOk_0) Tryz.func170 (by kernel_rfl)

/-! 71: strings.IndexByte -/
def Tryze71 : FuncId → Option Fun := fun f => match Nat.beq f 170 with | true => some TryzF170 | false => none
def Tryzp71 : Plans := fun id => none
def TryzF71 : Fun := funX Tryz.prog TryzG (fun _ => true) Tryze71 Tryzp71 lf Tryz.f71
theorem Tryzc71 : CallOk Tryz.prog TryzG 71 TryzF71 := funX_ok Tryzmix (callsOk_cons Tryzc170 callsOk_0) Tryz.func71 (by kernel_rfl)

/-! 27: pillarbox/text.Atom -/
def Tryze27 : FuncId → Option Fun := fun f => match Nat.beq f 71 with | true => some TryzF71 | false => none
def Tryzp27 : Plans := fun id => none
def TryzF27 : Fun := funX Tryz.prog TryzG (fun _ => true) Tryze27 Tryzp27 lf Tryz.f27
theorem Tryzc27 : CallOk Tryz.prog TryzG 27 TryzF27 := funX_ok Tryzmix (callsOk_cons Tryzc71 callsOk_0) Tryz.func27 (by kernel_rfl)

/-! 9: pillarbox/store.New -/
def Tryze9 : FuncId → Option Fun := fun f => match Nat.beq f 27 with | true => some TryzF27 | false => match Nat.beq f 28 with | true => some TryzF28 | false => match Nat.beq f 29 with | true => some TryzF29 | false => none
def Tryzp9 : Plans := fun id => none
def TryzF9 : Fun := funX Tryz.prog TryzG (fun _ => true) Tryze9 Tryzp9 lf Tryz.f9
theorem Tryzc9 : CallOk Tryz.prog TryzG 9 TryzF9 := funX_ok Tryzmix (callsOk_cons Tryzc27 (callsOk_cons Tryzc28 (callsOk_cons Tryzc29 callsOk_0))) Tryz.func9 (by kernel_rfl)

/-! 5: pillarbox/pillarboxlaw27.begun -/
def Tryze5 : FuncId → Option Fun := fun f => match Nat.beq f 9 with | true => some TryzF9 | false => match Nat.beq f 10 with | true => some TryzF10 | false => match Nat.beq f 11 with | true => some TryzF11 | false => match Nat.beq f 17 with | true => some TryzF17 | false => none
def Tryzp5 : Plans := fun id => none
def TryzF5 : Fun := funX Tryz.prog TryzG (fun _ => true) Tryze5 Tryzp5 lf Tryz.f5
theorem Tryzc5 : CallOk Tryz.prog TryzG 5 TryzF5 := funX_ok Tryzmix (callsOk_cons Tryzc9 (callsOk_cons Tryzc10 (callsOk_cons Tryzc11 (callsOk_cons Tryzc17 callsOk_0)))) Tryz.func5 (by kernel_rfl)

/-! 278: (*pillarbox/pillarboxref7.reader).is -/
def Tryze278 : FuncId → Option Fun := fun f => none
def Tryzp278 : Plans := fun id => match Nat.beq id 1 with | true => some ([0, 1, 3, 7, 15, 31, 63, 127, 255, 511, 63, 1087, 3135, 7231, 15423, 32767, 65535, 131071, 262143, 524287, 1048575, 2097151, 262143, 4456447, 12845055, 29622271, 67108863, 262143, 268435455, 536870911], [(0, .pure), (1, .pure), (2, .pure), (3, .read 0), (4, .pure), (5, .pure), (6, .pure), (7, .pure), (8, .pure), (9, .read 0), (10, .pure), (11, .pure), (12, .pure), (13, .read 0), (14, .pure), (15, .pure), (16, .pure), (17, .pure), (18, .pure), (19, .pure), (20, .pure), (21, .read 0), (22, .pure), (23, .pure), (24, .pure), (25, .read 0), (26, .pure), (27, .pure), (28, .pure), (29, .pure)]) | false => none
def TryzF278 : Fun := funX Tryz.prog TryzG (fun _ => true) Tryze278 Tryzp278 lf Tryz.f278
theorem Tryzc278 : CallOk Tryz.prog TryzG 278 TryzF278 := funX_ok Tryzmix callsOk_0 Tryz.func278 (by kernel_rfl)

/-! 174: (*pillarbox/pillarboxref7.reader).number -/
def Tryze174 : FuncId → Option Fun := fun f => match Nat.beq f 278 with | true => some TryzF278 | false => none
def Tryzp174 : Plans := fun id => match Nat.beq id 4 with | true => some ([0, 1, 3, 7, 0, 16, 48, 112, 240, 511, 1023, 2047, 4095, 8191, 16383, 2047, 34815, 100351, 231423, 524287, 1048575, 2097151, 4194303, 8388607, 16777215, 33554431, 67108863, 8388607, 142606335, 411041791, 947912703, 2147483647, 4294967295, 8589934591], [(0, .pure), (1, .pure), (2, .pure), (3, .read 0), (4, .pure), (5, .pure), (6, .pure), (7, .read 0), (8, .pure), (9, .pure), (10, .pure), (11, .pure), (12, .pure), (13, .pure), (14, .read 0), (15, .pure), (16, .pure), (17, .pure), (18, .read 0), (19, .pure), (20, .pure), (21, .pure), (22, .pure), (23, .pure), (24, .pure), (25, .pure), (26, .read 0), (27, .pure), (28, .pure), (29, .pure), (30, .read 0), (31, .pure), (32, .pure), (33, .pure)]) | false => match Nat.beq id 6 with | true => some ([0, 1, 0, 4, 12, 28, 0, 64, 192, 448, 1020, 2044, 4092, 8191, 16383], [(0, .pure), (1, .pure), (2, .pure), (3, .pure), (4, .pure), (5, .read 0), (6, .pure), (7, .pure), (8, .pure), (9, .read 0), (10, .pure), (11, .pure), (12, .pure), (13, .pure), (14, .pure)]) | false => match Nat.beq id 9 with | true => some ([0, 1, 3, 7, 15, 31, 63, 127, 255, 511, 63, 2047, 4095, 8191, 16383, 32767, 65535, 131071, 262143, 524287, 1048575, 2097151, 4194303, 8388607, 16777215, 33554431, 67108863, 134217727, 268435455, 536870911, 1073741823, 134217727, 2281701375, 6576668671, 15166603263, 32346472447, 68719476735, 137438953471, 274877906943, 549755813887, 1099511627775, 2199023255551, 274877906943, 4672924418047, 13469017440255, 31061203484671, 70368744177663, 140737488355327, 281474976710655, 562949953421311, 1125899906842623, 2251799813685247, 4503599627370495, 562949953421311, 9570149208162303, 27584547717644287, 63613344736608255, 144115188075855871, 288230376151711743, 576460752303423487, 1152921504606846975, 2305843009213693951, 4611686018427387903, 9223372036854775807, 18446744073709551615, 2305843009213693951, 39199331156632797183, 112986307451471003647, 260560260041147416575, 590295810358705651711, 1180591620717411303423, 2361183241434822606847, 4722366482869645213695, 9444732965739290427391], [(0, .pure), (1, .pure), (2, .pure), (3, .pure), (4, .pure), (5, .pure), (6, .pure), (7, .pure), (8, .pure), (9, .read 0), (10, .pure), (11, .pure), (12, .pure), (13, .pure), (14, .pure), (15, .pure), (16, .pure), (17, .pure), (18, .pure), (19, .pure), (20, .pure), (21, .pure), (22, .pure), (23, .pure), (24, .pure), (25, .pure), (26, .pure), (27, .pure), (28, .pure), (29, .pure), (30, .read 0), (31, .pure), (32, .pure), (33, .pure), (34, .read 0), (35, .pure), (36, .pure), (37, .pure), (38, .pure), (39, .pure), (40, .pure), (41, .read 0), (42, .pure), (43, .pure), (44, .pure), (45, .read 0), (46, .pure), (47, .pure), (48, .pure), (49, .pure), (50, .pure), (51, .pure), (52, .read 0), (53, .pure), (54, .pure), (55, .pure), (56, .read 0), (57, .pure), (58, .pure), (59, .pure), (60, .pure), (61, .pure), (62, .pure), (63, .pure), (64, .read 0), (65, .pure), (66, .pure), (67, .pure), (68, .read 0), (69, .pure), (70, .pure), (71, .pure), (72, .pure), (73, .pure)]) | false => none
def TryzF174 : Fun := funX Tryz.prog TryzG (fun _ => true) Tryze174 Tryzp174 lf Tryz.f174
theorem Tryzc174 : CallOk Tryz.prog TryzG 174 TryzF174 := funX_ok Tryzmix (callsOk_cons Tryzc278 callsOk_0) Tryz.func174 (by kernel_rfl)

/-! 282: pillarbox/pillarboxref1.Digits -/
def Tryze282 : FuncId → Option Fun := fun f => none
def Tryzp282 : Plans := fun id => match Nat.beq id 3 with | true => some ([0, 1, 3, 0, 8, 24, 56, 120, 248, 511, 1023], [(0, .pure), (1, .pure), (2, .heavy), (3, .pure), (4, .pure), (5, .pure), (6, .pure), (7, .alloc), (8, .own 7), (9, .pure), (10, .pure)]) | false => none
def TryzF282 : Fun := funX Tryz.prog TryzG (fun _ => true) Tryze282 Tryzp282 lf Tryz.f282
theorem Tryzc282 : CallOk Tryz.prog TryzG 282 TryzF282 := funX_ok Tryzmix callsOk_0 Tryz.func282 (by kernel_rfl)

/-! 283: pillarbox/pillarboxref7.quote -/
def Tryze283 : FuncId → Option Fun := fun f => none
def Tryzp283 : Plans := fun id => match Nat.beq id 21 with | true => some ([0, 0, 2, 6, 0, 16, 48, 126, 255, 511], [(0, .pure), (1, .pure), (2, .pure), (3, .pure), (4, .pure), (5, .pure), (6, .pure), (7, .alloc), (8, .heavy), (9, .pure)]) | false => none
def TryzF283 : Fun := funX Tryz.prog TryzG (fun _ => true) Tryze283 Tryzp283 lf Tryz.f283
theorem Tryzc283 : CallOk Tryz.prog TryzG 283 TryzF283 := funX_ok Tryzmix callsOk_0 Tryz.func283 (by kernel_rfl)

/-! together: [(176, pillarbox/pillarboxref7.put)] -/
def Tryzp176 : Plans := fun id => none
def Tryzs176 (e : FuncId → Option Fun) : FuncId → Option Fun := fun f => match Nat.beq f 176 with | true => some (funX Tryz.prog TryzG (fun _ => true) (fun f => match Nat.beq f 282 with | true => some TryzF282 | false => match Nat.beq f 283 with | true => some TryzF283 | false => e f) Tryzp176 lf Tryz.f176) | false => none
theorem Tryzso176 (e : FuncId → Option Fun) (he : ∀ f F, e f = some F → CallOk Tryz.prog TryzG f F) : ∀ f F, Tryzs176 e f = some F → CallOk Tryz.prog TryzG f F := callsOk_cons (funX_ok Tryzmix (callsOk_cons Tryzc282 (callsOk_cons Tryzc283 he)) Tryz.func176 (by kernel_rfl)) (callsOk_0)
def TryzF176 : Fun := pickF (levels (fun _ => none) Tryzs176 40) 176
theorem Tryzc176 : CallOk Tryz.prog TryzG 176 TryzF176 := pickF_ok (levels_ok callsOk_0 Tryzso176 40) 176

/-! 305: (*pillarbox/json.reader).digit -/
def Tryze305 : FuncId → Option Fun := fun f => none
def Tryzp305 : Plans := fun id => match Nat.beq id 1 with | true => some ([0, 1, 3, 7, 0, 16, 48, 112, 240, 511, 1023, 2047, 4095, 8191, 16383, 2047, 34815, 100351, 231423, 524287, 1048575, 2097151, 4194303, 8388607, 16777215, 33554431, 67108863, 8388607, 142606335, 411041791, 947912703, 2147483647, 4294967295, 8589934591, 17179869183], [(0, .pure), (1, .pure), (2, .pure), (3, .read 0), (4, .pure), (5, .pure), (6, .pure), (7, .read 0), (8, .pure), (9, .pure), (10, .pure), (11, .pure), (12, .pure), (13, .pure), (14, .read 0), (15, .pure), (16, .pure), (17, .pure), (18, .read 0), (19, .pure), (20, .pure), (21, .pure), (22, .pure), (23, .pure), (24, .pure), (25, .pure), (26, .read 0), (27, .pure), (28, .pure), (29, .pure), (30, .read 0), (31, .pure), (32, .pure), (33, .pure), (34, .pure)]) | false => none
def TryzF305 : Fun := funX Tryz.prog TryzG (fun _ => true) Tryze305 Tryzp305 lf Tryz.f305
theorem Tryzc305 : CallOk Tryz.prog TryzG 305 TryzF305 := funX_ok Tryzmix callsOk_0 Tryz.func305 (by kernel_rfl)

/-! 218: (*pillarbox/json.reader).number -/
def Tryze218 : FuncId → Option Fun := fun f => match Nat.beq f 212 with | true => some TryzF212 | false => match Nat.beq f 305 with | true => some TryzF305 | false => none
def Tryzp218 : Plans := fun id => match Nat.beq id 4 with | true => some ([0, 1, 3, 7, 0, 31], [(0, .pure), (1, .pure), (2, .pure), (3, .read 0), (4, .pure), (5, .pure)]) | false => match Nat.beq id 6 with | true => some ([0, 1, 0, 4, 12, 28, 0, 64, 192, 448, 1020, 2044, 4092, 8191, 16383], [(0, .pure), (1, .pure), (2, .pure), (3, .pure), (4, .pure), (5, .read 0), (6, .pure), (7, .pure), (8, .pure), (9, .read 0), (10, .pure), (11, .pure), (12, .pure), (13, .pure), (14, .pure)]) | false => none
def TryzF218 : Fun := funX Tryz.prog TryzG (fun _ => true) Tryze218 Tryzp218 lf Tryz.f218
theorem Tryzc218 : CallOk Tryz.prog TryzG 218 TryzF218 := funX_ok Tryzmix (callsOk_cons Tryzc212 (callsOk_cons Tryzc305 callsOk_0)) Tryz.func218 (by kernel_rfl)

/-! 306: internal/abi.NoEscape -/
def TryzF306 : Fun := sameF
theorem Tryzc306 : CallOk Tryz.prog TryzG 306 TryzF306 := sameF_ok Tryz.func306 (by kernel_rfl) (by kernel_rfl) (by kernel_rfl) (by kernel_rfl)

/-! 222: (*strings.Builder).copyCheck -/
def Tryze222 : FuncId → Option Fun := fun f => match Nat.beq f 306 with | true => some TryzF306 | false => none
def Tryzp222 : Plans := fun id => none
def TryzF222 : Fun := funX Tryz.prog TryzG (fun _ => true) Tryze222 Tryzp222 lf Tryz.f222
theorem Tryzc222 : CallOk Tryz.prog TryzG 222 TryzF222 := funX_ok Tryzmix (callsOk_cons Tryzc306 callsOk_0) Tryz.func222 (by kernel_rfl)

/-! 150: (*strings.Builder).WriteString -/
def Tryze150 : FuncId → Option Fun := fun f => match Nat.beq f 222 with | true => some TryzF222 | false => none
def Tryzp150 : Plans := fun id => none
def TryzF150 : Fun := funX Tryz.prog TryzG (fun _ => true) Tryze150 Tryzp150 lf Tryz.f150
theorem Tryzc150 : CallOk Tryz.prog TryzG 150 TryzF150 := funX_ok Tryzmix (callsOk_cons Tryzc222 callsOk_0) Tryz.func150 (by kernel_rfl)

/-! 224: (*strings.Builder).WriteByte -/
def Tryze224 : FuncId → Option Fun := fun f => match Nat.beq f 222 with | true => some TryzF222 | false => none
def Tryzp224 : Plans := fun id => none
def TryzF224 : Fun := funX Tryz.prog TryzG (fun _ => true) Tryze224 Tryzp224 lf Tryz.f224
theorem Tryzc224 : CallOk Tryz.prog TryzG 224 TryzF224 := funX_ok Tryzmix (callsOk_cons Tryzc222 callsOk_0) Tryz.func224 (by kernel_rfl)

/-! 152: (*pillarbox/canon.writer).text -/
def Tryze152 : FuncId → Option Fun := fun f => match Nat.beq f 224 with | true => some TryzF224 | false => none
def Tryzp152 : Plans := fun id => match Nat.beq id 6 with | true => some ([0, 1, 3, 0, 8, 24, 63], [(0, .pure), (1, .pure), (2, .pure), (3, .pure), (4, .pure), (5, .pure), (6, .heavy)]) | false => match Nat.beq id 7 with | true => some ([0, 1, 3, 0, 8, 24, 63], [(0, .pure), (1, .pure), (2, .pure), (3, .pure), (4, .pure), (5, .pure), (6, .heavy)]) | false => none
def TryzF152 : Fun := funX Tryz.prog TryzG (fun _ => true) Tryze152 Tryzp152 lf Tryz.f152
theorem Tryzc152 : CallOk Tryz.prog TryzG 152 TryzF152 := funX_ok Tryzmix (callsOk_cons Tryzc224 callsOk_0) Tryz.func152 (by kernel_rfl)

/-! 308: internal/stringslite.HasPrefix -/
def Tryze308 : FuncId → Option Fun := fun f => none
def Tryzp308 : Plans := fun id => none
def TryzF308 : Fun := funX Tryz.prog TryzG (fun _ => true) Tryze308 Tryzp308 lf Tryz.f308
theorem Tryzc308 : CallOk Tryz.prog TryzG 308 TryzF308 := funX_ok Tryzmix callsOk_0 Tryz.func308 (by kernel_rfl)

/-! 225: internal/stringslite.CutPrefix -/
def Tryze225 : FuncId → Option Fun := fun f => match Nat.beq f 308 with | true => some TryzF308 | false => none
def Tryzp225 : Plans := fun id => none
def TryzF225 : Fun := funX Tryz.prog TryzG (fun _ => true) Tryze225 Tryzp225 lf Tryz.f225
theorem Tryzc225 : CallOk Tryz.prog TryzG 225 TryzF225 := funX_ok Tryzmix (callsOk_cons Tryzc308 callsOk_0) Tryz.func225 (by kernel_rfl)

/-! 155: strings.CutPrefix -/
def Tryze155 : FuncId → Option Fun := fun f => match Nat.beq f 225 with | true => some TryzF225 | false => none
def Tryzp155 : Plans := fun id => none
def TryzF155 : Fun := funX Tryz.prog TryzG (fun _ => true) Tryze155 Tryzp155 lf Tryz.f155
theorem Tryzc155 : CallOk Tryz.prog TryzG 155 TryzF155 := funX_ok Tryzmix (callsOk_cons Tryzc225 callsOk_0) Tryz.func155 (by kernel_rfl)

/-! 68: pillarbox/call.Resolve -/
def Tryze68 : FuncId → Option Fun := fun f => match Nat.beq f 49 with | true => some TryzF49 | false => match Nat.beq f 56 with | true => some TryzF56 | false => match Nat.beq f 155 with | true => some TryzF155 | false => none
def Tryzp68 : Plans := fun id => match Nat.beq id 14 with | true => some ([0, 1, 0, 0, 8, 0, 0, 0, 71, 327, 1023, 2047], [(0, .pure), (1, .read 0), (2, .pure), (6, .pure), (8, .pure), (9, .heavy), (3, .pure), (4, .read 1), (5, .pure), (7, .read 1), (10, .pure), (11, .heavy)]) | false => none
def TryzF68 : Fun := funX Tryz.prog TryzG (fun _ => true) Tryze68 Tryzp68 lf Tryz.f68
theorem Tryzc68 : CallOk Tryz.prog TryzG 68 TryzF68 := funX_ok Tryzmix (callsOk_cons Tryzc49 (callsOk_cons Tryzc56 (callsOk_cons Tryzc155 callsOk_0))) Tryz.func68 (by kernel_rfl)

/-! 313: sync/atomic.LoadUint32 -/
def TryzF313 : Fun := atomLoad .u32
theorem Tryzc313 : CallOk Tryz.prog TryzG 313 TryzF313 := atomLoad_ok Tryz.func313 (by kernel_rfl) (by kernel_rfl) (by kernel_rfl) .u32 (by kernel_rfl)

/-! 229: (*sync/atomic.Bool).Load -/
def Tryze229 : FuncId → Option Fun := fun f => match Nat.beq f 313 with | true => some TryzF313 | false => none
def Tryzp229 : Plans := fun id => none
def TryzF229 : Fun := funX Tryz.prog TryzG (fun _ => true) Tryze229 Tryzp229 lf Tryz.f229
theorem Tryzc229 : CallOk Tryz.prog TryzG 229 TryzF229 := funX_ok Tryzmix (callsOk_cons Tryzc313 callsOk_0) Tryz.func229 (by kernel_rfl)

/-! 343: pillarbox/pillarboxref1.Put -/
def Tryze343 : FuncId → Option Fun := fun f => none
def Tryzp343 : Plans := fun id => none
def TryzF343 : Fun := funX Tryz.prog TryzG (fun _ => true) Tryze343 Tryzp343 lf Tryz.f343
theorem Tryzc343 : CallOk Tryz.prog TryzG 343 TryzF343 := funX_ok Tryzmix callsOk_0 Tryz.func343 (by kernel_rfl)

/-! 280: pillarbox/pillarboxref1.Get -/
def Tryze280 : FuncId → Option Fun := fun f => match Nat.beq f 343 with | true => some TryzF343 | false => none
def Tryzp280 : Plans := fun id => match Nat.beq id 20 with | true => some ([0, 1, 0, 0, 0, 0, 48, 124, 255], [(0, .pure), (1, .heavy), (2, .pure), (3, .pure), (4, .pure), (5, .pure), (6, .pure), (7, .pure), (8, .pure)]) | false => none
def TryzF280 : Fun := funX Tryz.prog TryzG (fun _ => true) Tryze280 Tryzp280 lf Tryz.f280
theorem Tryzc280 : CallOk Tryz.prog TryzG 280 TryzF280 := funX_ok Tryzmix (callsOk_cons Tryzc343 callsOk_0) Tryz.func280 (by kernel_rfl)

/-! 172: (*pillarbox/pillarboxref7.reader).text -/
def Tryze172 : FuncId → Option Fun := fun f => match Nat.beq f 280 with | true => some TryzF280 | false => none
def Tryzp172 : Plans := fun id => match Nat.beq id 3 with | true => some ([0, 1, 3, 7, 0, 16, 48, 112, 240, 511], [(0, .pure), (1, .pure), (2, .pure), (3, .read 0), (4, .pure), (5, .pure), (6, .pure), (7, .read 0), (8, .pure), (9, .pure)]) | false => match Nat.beq id 5 with | true => some ([0, 1, 3, 7, 0, 16, 48, 112, 255, 511], [(0, .pure), (1, .pure), (2, .pure), (3, .read 0), (4, .pure), (5, .pure), (6, .pure), (7, .read 0), (8, .pure), (9, .pure)]) | false => match Nat.beq id 6 with | true => some ([0, 1, 3, 7, 0, 16, 48, 112, 255, 511, 1023, 1023, 2047, 8191], [(0, .pure), (1, .pure), (2, .pure), (3, .read 0), (4, .pure), (5, .pure), (6, .pure), (7, .read 0), (8, .heavy), (9, .pure), (10, .pure), (11, .pure), (12, .pure), (13, .pure)]) | false => match Nat.beq id 9 with | true => some ([0, 0, 2, 6, 14, 0, 32, 96, 224, 0, 1022, 2047, 4095], [(0, .pure), (1, .pure), (2, .pure), (3, .pure), (4, .read 0), (5, .pure), (6, .pure), (7, .pure), (8, .read 0), (9, .pure), (10, .pure), (11, .heavy), (12, .pure)]) | false => none
def TryzF172 : Fun := funX Tryz.prog TryzG (fun _ => true) Tryze172 Tryzp172 lf Tryz.f172
theorem Tryzc172 : CallOk Tryz.prog TryzG 172 TryzF172 := funX_ok Tryzmix (callsOk_cons Tryzc280 callsOk_0) Tryz.func172 (by kernel_rfl)

/-! together: [(73, (*pillarbox/pillarboxref7.reader).value), (173, (*pillarbox/pillarboxref7.reader).list)] -/
def Tryzp73 : Plans := fun id => match Nat.beq id 2 with | true => some ([0, 1, 3, 7, 15, 31, 63, 127, 255, 511, 63, 1087, 3135, 7231, 15423, 32767, 65535], [(0, .pure), (1, .pure), (2, .pure), (3, .read 0), (4, .pure), (5, .pure), (6, .pure), (7, .pure), (8, .pure), (9, .read 0), (10, .pure), (11, .pure), (12, .pure), (13, .read 0), (14, .pure), (15, .pure), (16, .pure)]) | false => match Nat.beq id 5 with | true => some ([0, 1, 3, 7, 0, 16, 48, 112, 255], [(0, .pure), (1, .pure), (2, .pure), (3, .read 0), (4, .pure), (5, .pure), (6, .pure), (7, .read 0), (8, .pure)]) | false => none
def Tryzp173 : Plans := fun id => match Nat.beq id 29 with | true => some ([0, 1, 0, 4, 12, 31, 63, 127], [(2, .pure), (3, .heavy), (0, .pure), (1, .read 1), (4, .alloc), (5, .heavy), (6, .pure), (7, .heavy)]) | false => none
def Tryzs73 (e : FuncId → Option Fun) : FuncId → Option Fun := fun f => match Nat.beq f 73 with | true => some (funX Tryz.prog TryzG (fun _ => true) (fun f => match Nat.beq f 74 with | true => some TryzF74 | false => match Nat.beq f 172 with | true => some TryzF172 | false => match Nat.beq f 174 with | true => some TryzF174 | false => e f) Tryzp73 lf Tryz.f73) | false => match Nat.beq f 173 with | true => some (funX Tryz.prog TryzG (fun _ => true) (fun f => match Nat.beq f 74 with | true => some TryzF74 | false => match Nat.beq f 172 with | true => some TryzF172 | false => match Nat.beq f 278 with | true => some TryzF278 | false => e f) Tryzp173 lf Tryz.f173) | false => none
theorem Tryzso73 (e : FuncId → Option Fun) (he : ∀ f F, e f = some F → CallOk Tryz.prog TryzG f F) : ∀ f F, Tryzs73 e f = some F → CallOk Tryz.prog TryzG f F := callsOk_cons (funX_ok Tryzmix (callsOk_cons Tryzc74 (callsOk_cons Tryzc172 (callsOk_cons Tryzc174 he))) Tryz.func73 (by kernel_rfl)) (callsOk_cons (funX_ok Tryzmix (callsOk_cons Tryzc74 (callsOk_cons Tryzc172 (callsOk_cons Tryzc278 he))) Tryz.func173 (by kernel_rfl)) (callsOk_0))
def TryzF73 : Fun := pickF (levels (fun _ => none) Tryzs73 40) 73
theorem Tryzc73 : CallOk Tryz.prog TryzG 73 TryzF73 := pickF_ok (levels_ok callsOk_0 Tryzso73 40) 73
def TryzF173 : Fun := pickF (levels (fun _ => none) Tryzs73 40) 173
theorem Tryzc173 : CallOk Tryz.prog TryzG 173 TryzF173 := pickF_ok (levels_ok callsOk_0 Tryzso73 40) 173

/-! 30: pillarbox/pillarboxref7.Parse -/
def Tryze30 : FuncId → Option Fun := fun f => match Nat.beq f 73 with | true => some TryzF73 | false => match Nat.beq f 74 with | true => some TryzF74 | false => none
def Tryzp30 : Plans := fun id => match Nat.beq id 6 with | true => some ([0, 1, 3, 7, 0, 16, 48, 112, 240, 511], [(0, .pure), (1, .pure), (2, .pure), (3, .read 0), (4, .pure), (5, .pure), (6, .pure), (7, .read 0), (8, .pure), (9, .pure)]) | false => match Nat.beq id 9 with | true => some ([0, 0, 2, 6, 14, 1, 63], [(0, .pure), (5, .heavy), (1, .pure), (2, .pure), (3, .pure), (4, .read 1), (6, .pure)]) | false => none
def TryzF30 : Fun := funX Tryz.prog TryzG (fun _ => true) Tryze30 Tryzp30 lf Tryz.f30
theorem Tryzc30 : CallOk Tryz.prog TryzG 30 TryzF30 := funX_ok Tryzmix (callsOk_cons Tryzc73 (callsOk_cons Tryzc74 callsOk_0)) Tryz.func30 (by kernel_rfl)

/-! 181: pillarbox/pillarboxref1.Valid -/
def Tryze181 : FuncId → Option Fun := fun f => match Nat.beq f 280 with | true => some TryzF280 | false => none
def Tryzp181 : Plans := fun id => none
def TryzF181 : Fun := funX Tryz.prog TryzG (fun _ => true) Tryze181 Tryzp181 lf Tryz.f181
theorem Tryzc181 : CallOk Tryz.prog TryzG 181 TryzF181 := funX_ok Tryzmix (callsOk_cons Tryzc280 callsOk_0) Tryz.func181 (by kernel_rfl)

/-! together: [(281, pillarbox/pillarboxref7.right)] -/
def Tryzp281 : Plans := fun id => match Nat.beq id 18 with | true => some ([0, 1, 0, 7, 15, 0, 32, 0, 224, 480, 1023], [(0, .pure), (1, .read 0), (2, .pure), (3, .pure), (4, .read 0), (5, .pure), (6, .read 0), (7, .pure), (8, .pure), (9, .read 0), (10, .pure)]) | false => none
def Tryzs281 (e : FuncId → Option Fun) : FuncId → Option Fun := fun f => match Nat.beq f 281 with | true => some (funX Tryz.prog TryzG (fun _ => true) (fun f => match Nat.beq f 181 with | true => some TryzF181 | false => e f) Tryzp281 lf Tryz.f281) | false => none
theorem Tryzso281 (e : FuncId → Option Fun) (he : ∀ f F, e f = some F → CallOk Tryz.prog TryzG f F) : ∀ f F, Tryzs281 e f = some F → CallOk Tryz.prog TryzG f F := callsOk_cons (funX_ok Tryzmix (callsOk_cons Tryzc181 he) Tryz.func281 (by kernel_rfl)) (callsOk_0)
def TryzF281 : Fun := pickF (levels (fun _ => none) Tryzs281 40) 281
theorem Tryzc281 : CallOk Tryz.prog TryzG 281 TryzF281 := pickF_ok (levels_ok callsOk_0 Tryzso281 40) 281

/-! 175: pillarbox/pillarboxref7.Right -/
def Tryze175 : FuncId → Option Fun := fun f => match Nat.beq f 281 with | true => some TryzF281 | false => none
def Tryzp175 : Plans := fun id => none
def TryzF175 : Fun := funX Tryz.prog TryzG (fun _ => true) Tryze175 Tryzp175 lf Tryz.f175
theorem Tryzc175 : CallOk Tryz.prog TryzG 175 TryzF175 := funX_ok Tryzmix (callsOk_cons Tryzc281 callsOk_0) Tryz.func175 (by kernel_rfl)

/-! 77: pillarbox/pillarboxref7.Print -/
def Tryze77 : FuncId → Option Fun := fun f => match Nat.beq f 175 with | true => some TryzF175 | false => match Nat.beq f 176 with | true => some TryzF176 | false => none
def Tryzp77 : Plans := fun id => none
def TryzF77 : Fun := funX Tryz.prog TryzG (fun _ => true) Tryze77 Tryzp77 lf Tryz.f77
theorem Tryzc77 : CallOk Tryz.prog TryzG 77 TryzF77 := funX_ok Tryzmix (callsOk_cons Tryzc175 (callsOk_cons Tryzc176 callsOk_0)) Tryz.func77 (by kernel_rfl)

/-! 31: pillarbox/pillarboxlaw27.one -/
def Tryze31 : FuncId → Option Fun := fun f => match Nat.beq f 13 with | true => some TryzF13 | false => match Nat.beq f 14 with | true => some TryzF14 | false => match Nat.beq f 76 with | true => some TryzF76 | false => match Nat.beq f 77 with | true => some TryzF77 | false => none
def Tryzp31 : Plans := fun id => match Nat.beq id 1 with | true => some ([0, 1, 0, 3, 15, 31, 0, 127], [(0, .pure), (1, .heavy), (3, .heavy), (2, .read 2), (4, .alloc), (5, .heavy), (6, .alloc), (7, .heavy)]) | false => match Nat.beq id 2 with | true => some ([0, 1, 3, 0, 8, 31, 63, 127, 255, 511, 1023, 1023, 2047, 8191], [(0, .heavy), (1, .heavy), (2, .heavy), (3, .read 3), (4, .alloc), (5, .heavy), (6, .alloc), (7, .heavy), (8, .heavy), (9, .pure), (10, .pure), (11, .pure), (12, .pure), (13, .pure)]) | false => none
def TryzF31 : Fun := funX Tryz.prog TryzG (fun _ => true) Tryze31 Tryzp31 lf Tryz.f31
theorem Tryzc31 : CallOk Tryz.prog TryzG 31 TryzF31 := funX_ok Tryzmix (callsOk_cons Tryzc13 (callsOk_cons Tryzc14 (callsOk_cons Tryzc76 (callsOk_cons Tryzc77 callsOk_0)))) Tryz.func31 (by kernel_rfl)

/-! 344: pillarbox/utf8.size -/
def Tryze344 : FuncId → Option Fun := fun f => none
def Tryzp344 : Plans := fun id => none
def TryzF344 : Fun := funX Tryz.prog TryzG (fun _ => true) Tryze344 Tryzp344 lf Tryz.f344
theorem Tryzc344 : CallOk Tryz.prog TryzG 344 TryzF344 := funX_ok Tryzmix callsOk_0 Tryz.func344 (by kernel_rfl)

/-! 345: pillarbox/utf8.Put -/
def Tryze345 : FuncId → Option Fun := fun f => none
def Tryzp345 : Plans := fun id => none
def TryzF345 : Fun := funX Tryz.prog TryzG (fun _ => true) Tryze345 Tryzp345 lf Tryz.f345
theorem Tryzc345 : CallOk Tryz.prog TryzG 345 TryzF345 := funX_ok Tryzmix callsOk_0 Tryz.func345 (by kernel_rfl)

/-! 284: pillarbox/utf8.Get -/
def Tryze284 : FuncId → Option Fun := fun f => match Nat.beq f 344 with | true => some TryzF344 | false => match Nat.beq f 345 with | true => some TryzF345 | false => none
def Tryzp284 : Plans := fun id => match Nat.beq id 10 with | true => some ([0, 1, 0, 0, 0, 0, 48, 124, 255], [(0, .pure), (1, .heavy), (2, .pure), (3, .pure), (4, .pure), (5, .pure), (6, .pure), (7, .pure), (8, .pure)]) | false => none
def TryzF284 : Fun := funX Tryz.prog TryzG (fun _ => true) Tryze284 Tryzp284 lf Tryz.f284
theorem Tryzc284 : CallOk Tryz.prog TryzG 284 TryzF284 := funX_ok Tryzmix (callsOk_cons Tryzc344 (callsOk_cons Tryzc345 callsOk_0)) Tryz.func284 (by kernel_rfl)

/-! 177: pillarbox/utf8.Valid -/
def Tryze177 : FuncId → Option Fun := fun f => match Nat.beq f 284 with | true => some TryzF284 | false => none
def Tryzp177 : Plans := fun id => none
def TryzF177 : Fun := funX Tryz.prog TryzG (fun _ => true) Tryze177 Tryzp177 lf Tryz.f177
theorem Tryzc177 : CallOk Tryz.prog TryzG 177 TryzF177 := funX_ok Tryzmix (callsOk_cons Tryzc284 callsOk_0) Tryz.func177 (by kernel_rfl)

/-! 216: (*pillarbox/json.reader).text -/
def Tryze216 : FuncId → Option Fun := fun f => match Nat.beq f 212 with | true => some TryzF212 | false => match Nat.beq f 217 with | true => some TryzF217 | false => match Nat.beq f 284 with | true => some TryzF284 | false => none
def Tryzp216 : Plans := fun id => match Nat.beq id 8 with | true => some ([0, 1, 3, 7, 0, 16, 48, 112, 240, 511, 1023], [(0, .pure), (1, .pure), (2, .pure), (3, .read 0), (4, .pure), (5, .pure), (6, .pure), (7, .read 0), (8, .pure), (9, .pure), (10, .pure)]) | false => match Nat.beq id 9 with | true => some ([0, 1, 3, 7, 0, 16, 48, 112, 255, 511, 1023], [(0, .pure), (1, .pure), (2, .pure), (3, .read 0), (4, .pure), (5, .pure), (6, .pure), (7, .read 0), (8, .pure), (9, .pure), (10, .pure)]) | false => match Nat.beq id 3 with | true => some ([0, 1, 3, 7, 0, 16, 48, 112, 255, 511, 1023, 1023, 2047, 8191], [(0, .pure), (1, .pure), (2, .pure), (3, .read 0), (4, .pure), (5, .pure), (6, .pure), (7, .read 0), (8, .heavy), (9, .pure), (10, .pure), (11, .pure), (12, .pure), (13, .pure)]) | false => match Nat.beq id 6 with | true => some ([0, 0, 2, 6, 14, 0, 32, 96, 224, 0, 1022, 2047, 4095], [(0, .pure), (1, .pure), (2, .pure), (3, .pure), (4, .read 0), (5, .pure), (6, .pure), (7, .pure), (8, .read 0), (9, .pure), (10, .pure), (11, .heavy), (12, .pure)]) | false => none
def TryzF216 : Fun := funX Tryz.prog TryzG (fun _ => true) Tryze216 Tryzp216 lf Tryz.f216
theorem Tryzc216 : CallOk Tryz.prog TryzG 216 TryzF216 := funX_ok Tryzmix (callsOk_cons Tryzc212 (callsOk_cons Tryzc217 (callsOk_cons Tryzc284 callsOk_0))) Tryz.func216 (by kernel_rfl)

/-! together: [(138, (*pillarbox/json.reader).value), (213, (*pillarbox/json.reader).many), (214, (*pillarbox/json.reader).value$1), (215, (*pillarbox/json.reader).value$2)] -/
def Tryzp138 : Plans := fun id => match Nat.beq id 1 with | true => some ([0, 1, 3, 7, 0, 16, 48, 112, 240, 511], [(0, .read 0), (1, .pure), (2, .pure), (3, .read 0), (4, .read 0), (5, .pure), (6, .pure), (7, .read 0), (8, .pure), (9, .pure)]) | false => match Nat.beq id 3 with | true => some ([0, 1, 3, 7, 0, 16, 48, 112, 255, 511], [(0, .read 0), (1, .pure), (2, .pure), (3, .read 0), (4, .read 0), (5, .pure), (6, .pure), (7, .read 0), (8, .pure), (9, .pure)]) | false => none
def Tryzp213 : Plans := fun id => none
def Tryzp214 : Plans := fun id => match Nat.beq id 0 with | true => some ([0, 1, 0, 0, 8, 28, 3, 0, 255, 511, 1023, 511, 2559], [(2, .read 0), (3, .read 0), (4, .pure), (5, .heavy), (0, .pure), (1, .read 1), (6, .pure), (7, .alloc), (8, .heavy), (9, .pure), (11, .pure), (10, .heavy), (12, .heavy)]) | false => none
def Tryzp215 : Plans := fun id => match Nat.beq id 7 with | true => some ([0, 1, 0, 0, 8, 28, 3, 0, 255, 511, 1023, 511, 2559], [(2, .read 0), (3, .read 0), (4, .pure), (5, .heavy), (0, .pure), (1, .read 1), (6, .pure), (7, .alloc), (8, .heavy), (9, .pure), (11, .pure), (10, .heavy), (12, .heavy)]) | false => none
def Tryzs138 (e : FuncId → Option Fun) : FuncId → Option Fun := fun f => match Nat.beq f 138 with | true => some (funX Tryz.prog TryzG (fun _ => true) (fun f => match Nat.beq f 212 with | true => some TryzF212 | false => match Nat.beq f 216 with | true => some TryzF216 | false => match Nat.beq f 218 with | true => some TryzF218 | false => e f) Tryzp138 lf Tryz.f138) | false => match Nat.beq f 213 with | true => some (funX Tryz.prog TryzG (fun _ => true) (fun f => match Nat.beq f 137 with | true => some TryzF137 | false => match Nat.beq f 212 with | true => some TryzF212 | false => match Nat.beq f 217 with | true => some TryzF217 | false => e f) Tryzp213 lf Tryz.f213) | false => match Nat.beq f 214 with | true => some (funX Tryz.prog TryzG (fun _ => true) (fun f => e f) Tryzp214 lf Tryz.f214) | false => match Nat.beq f 215 with | true => some (funX Tryz.prog TryzG (fun _ => true) (fun f => match Nat.beq f 116 with | true => some TryzF116 | false => match Nat.beq f 137 with | true => some TryzF137 | false => match Nat.beq f 216 with | true => some TryzF216 | false => match Nat.beq f 217 with | true => some TryzF217 | false => e f) Tryzp215 lf Tryz.f215) | false => none
theorem Tryzso138 (e : FuncId → Option Fun) (he : ∀ f F, e f = some F → CallOk Tryz.prog TryzG f F) : ∀ f F, Tryzs138 e f = some F → CallOk Tryz.prog TryzG f F := callsOk_cons (funX_ok Tryzmix (callsOk_cons Tryzc212 (callsOk_cons Tryzc216 (callsOk_cons Tryzc218 he))) Tryz.func138 (by kernel_rfl)) (callsOk_cons (funX_ok Tryzmix (callsOk_cons Tryzc137 (callsOk_cons Tryzc212 (callsOk_cons Tryzc217 he))) Tryz.func213 (by kernel_rfl)) (callsOk_cons (funX_ok Tryzmix he Tryz.func214 (by kernel_rfl)) (callsOk_cons (funX_ok Tryzmix (callsOk_cons Tryzc116 (callsOk_cons Tryzc137 (callsOk_cons Tryzc216 (callsOk_cons Tryzc217 he)))) Tryz.func215 (by kernel_rfl)) (callsOk_0))))
def TryzF138 : Fun := pickF (levels (fun _ => none) Tryzs138 40) 138
theorem Tryzc138 : CallOk Tryz.prog TryzG 138 TryzF138 := pickF_ok (levels_ok callsOk_0 Tryzso138 40) 138
def TryzF213 : Fun := pickF (levels (fun _ => none) Tryzs138 40) 213
theorem Tryzc213 : CallOk Tryz.prog TryzG 213 TryzF213 := pickF_ok (levels_ok callsOk_0 Tryzso138 40) 213
def TryzF214 : Fun := pickF (levels (fun _ => none) Tryzs138 40) 214
theorem Tryzc214 : CallOk Tryz.prog TryzG 214 TryzF214 := pickF_ok (levels_ok callsOk_0 Tryzso138 40) 214
def TryzF215 : Fun := pickF (levels (fun _ => none) Tryzs138 40) 215
theorem Tryzc215 : CallOk Tryz.prog TryzG 215 TryzF215 := pickF_ok (levels_ok callsOk_0 Tryzso138 40) 215

/-! 48: pillarbox/json.Parse -/
def Tryze48 : FuncId → Option Fun := fun f => match Nat.beq f 137 with | true => some TryzF137 | false => match Nat.beq f 138 with | true => some TryzF138 | false => none
def Tryzp48 : Plans := fun id => match Nat.beq id 8 with | true => some ([0, 1, 3, 7, 0, 16, 48, 112, 240, 511], [(0, .read 0), (1, .pure), (2, .pure), (3, .read 0), (4, .read 0), (5, .pure), (6, .pure), (7, .read 0), (8, .pure), (9, .pure)]) | false => none
def Tryzd48 : FuncId → Option Fun := fun f => match Nat.beq f 136 with | true => some TryzF136 | false => none
def TryzF48 : Fun := funXT Tryz.prog TryzG (fun _ => true) Tryze48 Tryzd48 Tryzp48 lf Tryz.f48
theorem Tryzc48 : CallOk Tryz.prog TryzG 48 TryzF48 := funXT_ok Tryzmix (callsOk_cons Tryzc137 (callsOk_cons Tryzc138 callsOk_0)) (dcallsOk_cons Tryzb136 dcallsOk_0) Tryz.func48 (by kernel_rfl)

/-! 220: pillarbox/canon.keys -/
def Tryze220 : FuncId → Option Fun := fun f => match Nat.beq f 177 with | true => some TryzF177 | false => none
def Tryzp220 : Plans := fun id => none
def TryzF220 : Fun := funX Tryz.prog TryzG (fun _ => true) Tryze220 Tryzp220 lf Tryz.f220
theorem Tryzc220 : CallOk Tryz.prog TryzG 220 TryzF220 := funX_ok Tryzmix (callsOk_cons Tryzc177 callsOk_0) Tryz.func220 (by kernel_rfl)

/-! together: [(53, slices.ContainsFunc[[]pillarbox/api.Node,pillarbox/api.Node]), (144, slices.IndexFunc[[]pillarbox/api.Node,pillarbox/api.Node]), (149, pillarbox/canon.right), (221, pillarbox/canon.right$1)] -/
def Tryzp53 : Plans := fun id => none
def Tryzp144 : Plans := fun id => none
def Tryzp149 : Plans := fun id => none
def Tryzp221 : Plans := fun id => none
def Tryzs53 (e : FuncId → Option Fun) : FuncId → Option Fun := fun f => match Nat.beq f 53 with | true => some (funX Tryz.prog TryzG (fun _ => true) (fun f => e f) Tryzp53 lf Tryz.f53) | false => match Nat.beq f 144 with | true => some (funX Tryz.prog TryzG (fun _ => true) (fun f => match Nat.beq f 51 with | true => some TryzF51 | false => e f) Tryzp144 lf Tryz.f144) | false => match Nat.beq f 149 with | true => some (funX Tryz.prog TryzG (fun _ => true) (fun f => match Nat.beq f 177 with | true => some TryzF177 | false => match Nat.beq f 219 with | true => some TryzF219 | false => match Nat.beq f 220 with | true => some TryzF220 | false => e f) Tryzp149 lf Tryz.f149) | false => match Nat.beq f 221 with | true => some (funX Tryz.prog TryzG (fun _ => true) (fun f => e f) Tryzp221 lf Tryz.f221) | false => none
theorem Tryzso53 (e : FuncId → Option Fun) (he : ∀ f F, e f = some F → CallOk Tryz.prog TryzG f F) : ∀ f F, Tryzs53 e f = some F → CallOk Tryz.prog TryzG f F := callsOk_cons (funX_ok Tryzmix he Tryz.func53 (by kernel_rfl)) (callsOk_cons (funX_ok Tryzmix (callsOk_cons Tryzc51 he) Tryz.func144 (by kernel_rfl)) (callsOk_cons (funX_ok Tryzmix (callsOk_cons Tryzc177 (callsOk_cons Tryzc219 (callsOk_cons Tryzc220 he))) Tryz.func149 (by kernel_rfl)) (callsOk_cons (funX_ok Tryzmix he Tryz.func221 (by kernel_rfl)) (callsOk_0))))
def TryzF53 : Fun := pickF (levels (fun _ => none) Tryzs53 40) 53
theorem Tryzc53 : CallOk Tryz.prog TryzG 53 TryzF53 := pickF_ok (levels_ok callsOk_0 Tryzso53 40) 53
def TryzF144 : Fun := pickF (levels (fun _ => none) Tryzs53 40) 144
theorem Tryzc144 : CallOk Tryz.prog TryzG 144 TryzF144 := pickF_ok (levels_ok callsOk_0 Tryzso53 40) 144
def TryzF149 : Fun := pickF (levels (fun _ => none) Tryzs53 40) 149
theorem Tryzc149 : CallOk Tryz.prog TryzG 149 TryzF149 := pickF_ok (levels_ok callsOk_0 Tryzso53 40) 149
def TryzF221 : Fun := pickF (levels (fun _ => none) Tryzs53 40) 221
theorem Tryzc221 : CallOk Tryz.prog TryzG 221 TryzF221 := pickF_ok (levels_ok callsOk_0 Tryzso53 40) 221

/-! 19: pillarbox/call.Read -/
def Tryze19 : FuncId → Option Fun := fun f => match Nat.beq f 48 with | true => some TryzF48 | false => match Nat.beq f 49 with | true => some TryzF49 | false => match Nat.beq f 53 with | true => some TryzF53 | false => none
def Tryzp19 : Plans := fun id => match Nat.beq id 23 with | true => some ([0, 0, 2, 6, 14, 30, 0, 64, 192, 448, 0, 1024, 3072, 7168, 15360, 32766, 65534, 131071, 262143], [(0, .pure), (1, .pure), (2, .read 0), (3, .pure), (4, .pure), (5, .read 0), (6, .pure), (7, .read 0), (8, .pure), (9, .read 0), (10, .pure), (11, .read 0), (12, .pure), (13, .pure), (14, .read 0), (15, .pure), (16, .alloc), (17, .heavy), (18, .pure)]) | false => none
def TryzF19 : Fun := funX Tryz.prog TryzG (fun _ => true) Tryze19 Tryzp19 lf Tryz.f19
theorem Tryzc19 : CallOk Tryz.prog TryzG 19 TryzF19 := funX_ok Tryzmix (callsOk_cons Tryzc48 (callsOk_cons Tryzc49 (callsOk_cons Tryzc53 callsOk_0))) Tryz.func19 (by kernel_rfl)

/-! 63: pillarbox/canon.Right -/
def Tryze63 : FuncId → Option Fun := fun f => match Nat.beq f 149 with | true => some TryzF149 | false => none
def Tryzp63 : Plans := fun id => none
def TryzF63 : Fun := funX Tryz.prog TryzG (fun _ => true) Tryze63 Tryzp63 lf Tryz.f63
theorem Tryzc63 : CallOk Tryz.prog TryzG 63 TryzF63 := funX_ok Tryzmix (callsOk_cons Tryzc149 callsOk_0) Tryz.func63 (by kernel_rfl)

/-! 376: internal/strconv.small -/
def Tryze376 : FuncId → Option Fun := fun f => none
def Tryzp376 : Plans := fun id => none
def TryzF376 : Fun := funX Tryz.prog TryzG (fun _ => true) Tryze376 Tryzp376 lf Tryz.f376
theorem Tryzc376 : CallOk Tryz.prog TryzG 376 TryzF376 := funX_ok Tryzmix callsOk_0 Tryz.func376 (by kernel_rfl)

/-! 307: internal/strconv.FormatInt -/
def Tryze307 : FuncId → Option Fun := fun f => match Nat.beq f 376 with | true => some TryzF376 | false => none
def Tryzp307 : Plans := fun id => none
def TryzF307 : Fun := funX Tryz.prog TryzG (fun _ => true) Tryze307 Tryzp307 lf Tryz.f307
theorem Tryzc307 : CallOk Tryz.prog TryzG 307 TryzF307 := funX_ok Tryzmix (callsOk_cons Tryzc376 callsOk_0) Tryz.func307 (by kernel_rfl)

/-! 223: internal/strconv.Itoa -/
def Tryze223 : FuncId → Option Fun := fun f => match Nat.beq f 307 with | true => some TryzF307 | false => none
def Tryzp223 : Plans := fun id => none
def TryzF223 : Fun := funX Tryz.prog TryzG (fun _ => true) Tryze223 Tryzp223 lf Tryz.f223
theorem Tryzc223 : CallOk Tryz.prog TryzG 223 TryzF223 := funX_ok Tryzmix (callsOk_cons Tryzc307 callsOk_0) Tryz.func223 (by kernel_rfl)

/-! 151: strconv.Itoa -/
def Tryze151 : FuncId → Option Fun := fun f => match Nat.beq f 223 with | true => some TryzF223 | false => none
def Tryzp151 : Plans := fun id => none
def TryzF151 : Fun := funX Tryz.prog TryzG (fun _ => true) Tryze151 Tryzp151 lf Tryz.f151
theorem Tryzc151 : CallOk Tryz.prog TryzG 151 TryzF151 := funX_ok Tryzmix (callsOk_cons Tryzc223 callsOk_0) Tryz.func151 (by kernel_rfl)

/-! together: [(64, (*pillarbox/canon.writer).node), (153, (*pillarbox/canon.writer).kids)] -/
def Tryzp64 : Plans := fun id => match Nat.beq id 11 with | true => some ([0, 1, 3, 0, 8, 24, 63], [(3, .pure), (4, .read 0), (5, .heavy), (0, .pure), (1, .pure), (2, .pure), (6, .heavy)]) | false => none
def Tryzp153 : Plans := fun id => none
def Tryzs64 (e : FuncId → Option Fun) : FuncId → Option Fun := fun f => match Nat.beq f 64 with | true => some (funX Tryz.prog TryzG (fun _ => true) (fun f => match Nat.beq f 65 with | true => some TryzF65 | false => match Nat.beq f 150 with | true => some TryzF150 | false => match Nat.beq f 151 with | true => some TryzF151 | false => match Nat.beq f 152 with | true => some TryzF152 | false => e f) Tryzp64 lf Tryz.f64) | false => match Nat.beq f 153 with | true => some (funX Tryz.prog TryzG (fun _ => true) (fun f => match Nat.beq f 152 with | true => some TryzF152 | false => match Nat.beq f 224 with | true => some TryzF224 | false => e f) Tryzp153 lf Tryz.f153) | false => none
theorem Tryzso64 (e : FuncId → Option Fun) (he : ∀ f F, e f = some F → CallOk Tryz.prog TryzG f F) : ∀ f F, Tryzs64 e f = some F → CallOk Tryz.prog TryzG f F := callsOk_cons (funX_ok Tryzmix (callsOk_cons Tryzc65 (callsOk_cons Tryzc150 (callsOk_cons Tryzc151 (callsOk_cons Tryzc152 he)))) Tryz.func64 (by kernel_rfl)) (callsOk_cons (funX_ok Tryzmix (callsOk_cons Tryzc152 (callsOk_cons Tryzc224 he)) Tryz.func153 (by kernel_rfl)) (callsOk_0))
def TryzF64 : Fun := pickF (levels (fun _ => none) Tryzs64 40) 64
theorem Tryzc64 : CallOk Tryz.prog TryzG 64 TryzF64 := pickF_ok (levels_ok callsOk_0 Tryzso64 40) 64
def TryzF153 : Fun := pickF (levels (fun _ => none) Tryzs64 40) 153
theorem Tryzc153 : CallOk Tryz.prog TryzG 153 TryzF153 := pickF_ok (levels_ok callsOk_0 Tryzso64 40) 153

/-! 23: pillarbox/canon.Print -/
def Tryze23 : FuncId → Option Fun := fun f => match Nat.beq f 63 with | true => some TryzF63 | false => match Nat.beq f 64 with | true => some TryzF64 | false => match Nat.beq f 65 with | true => some TryzF65 | false => match Nat.beq f 66 with | true => some TryzF66 | false => none
def Tryzp23 : Plans := fun id => none
def TryzF23 : Fun := funX Tryz.prog TryzG (fun _ => true) Tryze23 Tryzp23 lf Tryz.f23
theorem Tryzc23 : CallOk Tryz.prog TryzG 23 TryzF23 := funX_ok Tryzmix (callsOk_cons Tryzc63 (callsOk_cons Tryzc64 (callsOk_cons Tryzc65 (callsOk_cons Tryzc66 callsOk_0)))) Tryz.func23 (by kernel_rfl)

/-! 385: sync/atomic.StoreUint32 -/
def TryzF385 : Fun := atomStore
theorem Tryzc385 : CallOk Tryz.prog TryzG 385 TryzF385 := atomStore_ok Tryz.func385 (by kernel_rfl) (by kernel_rfl) (by kernel_rfl) (by kernel_rfl)

/-! 386: sync/atomic.b32 -/
def Tryze386 : FuncId → Option Fun := fun f => none
def Tryzp386 : Plans := fun id => none
def TryzF386 : Fun := funX Tryz.prog TryzG (fun _ => true) Tryze386 Tryzp386 lf Tryz.f386
theorem Tryzc386 : CallOk Tryz.prog TryzG 386 TryzF386 := funX_ok Tryzmix callsOk_0 Tryz.func386 (by kernel_rfl)

/-! 316: (*sync/atomic.Bool).Store -/
def Tryze316 : FuncId → Option Fun := fun f => match Nat.beq f 385 with | true => some TryzF385 | false => match Nat.beq f 386 with | true => some TryzF386 | false => none
def Tryzp316 : Plans := fun id => match Nat.beq id 0 with | true => some ([0, 1, 3, 0, 8, 31], [(3, .pure), (4, .heavy), (0, .pure), (1, .pure), (2, .pure), (5, .heavy)]) | false => none
def TryzF316 : Fun := funX Tryz.prog TryzG (fun _ => true) Tryze316 Tryzp316 lf Tryz.f316
theorem Tryzc316 : CallOk Tryz.prog TryzG 316 TryzF316 := funX_ok Tryzmix (callsOk_cons Tryzc385 (callsOk_cons Tryzc386 callsOk_0)) Tryz.func316 (by kernel_rfl)
theorem Tryzb316 : DCallOk Tryz.prog TryzG 316 TryzF316 := (funX_body Tryzmix (callsOk_cons Tryzc385 (callsOk_cons Tryzc386 callsOk_0)) Tryz.func316 (by kernel_rfl)).deferred

/-! 448: internal/race.Disable -/
def TryzF448 : Fun := markF0
theorem Tryzc448 : CallOk Tryz.prog TryzG 448 TryzF448 := markF0_ok Tryz.func448 (by kernel_rfl) (by kernel_rfl) (by kernel_rfl) .disable (by kernel_rfl)

/-! 449: sync/atomic.CompareAndSwapInt32 -/
def TryzF449 : Fun := atomCas .i32
theorem Tryzc449 : CallOk Tryz.prog TryzG 449 TryzF449 := atomCas_ok Tryz.func449 (by kernel_rfl) (by kernel_rfl) (by kernel_rfl) .i32 (by kernel_rfl)

/-! 450: internal/race.Enable -/
def TryzF450 : Fun := markF0
theorem Tryzc450 : CallOk Tryz.prog TryzG 450 TryzF450 := markF0_ok Tryz.func450 (by kernel_rfl) (by kernel_rfl) (by kernel_rfl) .enable (by kernel_rfl)

/-! 451: internal/race.Acquire -/
def TryzF451 : Fun := markF1
theorem Tryzc451 : CallOk Tryz.prog TryzG 451 TryzF451 := markF1_ok Tryz.func451 (by kernel_rfl) (by kernel_rfl) (by kernel_rfl) .acquire (by kernel_rfl)

/-! 383: (*internal/sync.Mutex).Lock -/
def Tryze383 : FuncId → Option Fun := fun f => match Nat.beq f 448 with | true => some TryzF448 | false => match Nat.beq f 449 with | true => some TryzF449 | false => match Nat.beq f 450 with | true => some TryzF450 | false => match Nat.beq f 451 with | true => some TryzF451 | false => none
def Tryzp383 : Plans := fun id => none
def TryzF383 : Fun := funX Tryz.prog TryzG (fun _ => true) Tryze383 Tryzp383 lf Tryz.f383
theorem Tryzc383 : CallOk Tryz.prog TryzG 383 TryzF383 := funX_ok Tryzmix (callsOk_cons Tryzc448 (callsOk_cons Tryzc449 (callsOk_cons Tryzc450 (callsOk_cons Tryzc451 callsOk_0)))) Tryz.func383 (by kernel_rfl)

/-! 314: (*sync.Mutex).Lock -/
def Tryze314 : FuncId → Option Fun := fun f => match Nat.beq f 383 with | true => some TryzF383 | false => none
def Tryzp314 : Plans := fun id => none
def TryzF314 : Fun := funX Tryz.prog TryzG (fun _ => true) Tryze314 Tryzp314 lf Tryz.f314
theorem Tryzc314 : CallOk Tryz.prog TryzG 314 TryzF314 := funX_ok Tryzmix (callsOk_cons Tryzc383 callsOk_0) Tryz.func314 (by kernel_rfl)

/-! 453: internal/race.ReleaseMerge -/
def TryzF453 : Fun := markF1
theorem Tryzc453 : CallOk Tryz.prog TryzG 453 TryzF453 := markF1_ok Tryz.func453 (by kernel_rfl) (by kernel_rfl) (by kernel_rfl) .releaseMerge (by kernel_rfl)

/-! 454: sync/atomic.AddInt32 -/
def TryzF454 : Fun := atomAdd .i32
theorem Tryzc454 : CallOk Tryz.prog TryzG 454 TryzF454 := atomAdd_ok Tryz.func454 (by kernel_rfl) (by kernel_rfl) (by kernel_rfl) .i32 (by kernel_rfl)

/-! 384: (*internal/sync.Mutex).Unlock -/
def Tryze384 : FuncId → Option Fun := fun f => match Nat.beq f 448 with | true => some TryzF448 | false => match Nat.beq f 450 with | true => some TryzF450 | false => match Nat.beq f 453 with | true => some TryzF453 | false => match Nat.beq f 454 with | true => some TryzF454 | false => none
def Tryzp384 : Plans := fun id => none
def TryzF384 : Fun := funX Tryz.prog TryzG (fun _ => true) Tryze384 Tryzp384 lf Tryz.f384
theorem Tryzc384 : CallOk Tryz.prog TryzG 384 TryzF384 := funX_ok Tryzmix (callsOk_cons Tryzc448 (callsOk_cons Tryzc450 (callsOk_cons Tryzc453 (callsOk_cons Tryzc454 callsOk_0)))) Tryz.func384 (by kernel_rfl)

/-! 315: (*sync.Mutex).Unlock -/
def Tryze315 : FuncId → Option Fun := fun f => match Nat.beq f 384 with | true => some TryzF384 | false => none
def Tryzp315 : Plans := fun id => none
def TryzF315 : Fun := funX Tryz.prog TryzG (fun _ => true) Tryze315 Tryzp315 lf Tryz.f315
theorem Tryzc315 : CallOk Tryz.prog TryzG 315 TryzF315 := funX_ok Tryzmix (callsOk_cons Tryzc384 callsOk_0) Tryz.func315 (by kernel_rfl)
theorem Tryzb315 : DCallOk Tryz.prog TryzG 315 TryzF315 := (funX_body Tryzmix (callsOk_cons Tryzc384 callsOk_0) Tryz.func315 (by kernel_rfl)).deferred

/-! 230: (*sync.Once).doSlow -/
def Tryze230 : FuncId → Option Fun := fun f => match Nat.beq f 159 with | true => some TryzF159 | false => match Nat.beq f 229 with | true => some TryzF229 | false => match Nat.beq f 314 with | true => some TryzF314 | false => none
def Tryzp230 : Plans := fun id => none
def Tryzd230 : FuncId → Option Fun := fun f => match Nat.beq f 315 with | true => some TryzF315 | false => match Nat.beq f 316 with | true => some TryzF316 | false => none
def TryzF230 : Fun := funXT Tryz.prog TryzG (fun _ => true) Tryze230 Tryzd230 Tryzp230 lf Tryz.f230
theorem Tryzc230 : CallOk Tryz.prog TryzG 230 TryzF230 := funXT_ok Tryzmix (callsOk_cons Tryzc159 (callsOk_cons Tryzc229 (callsOk_cons Tryzc314 callsOk_0))) (dcallsOk_cons Tryzb315 (dcallsOk_cons Tryzb316 dcallsOk_0)) Tryz.func230 (by kernel_rfl)

/-! 158: (*sync.Once).Do -/
def Tryze158 : FuncId → Option Fun := fun f => match Nat.beq f 229 with | true => some TryzF229 | false => match Nat.beq f 230 with | true => some TryzF230 | false => none
def Tryzp158 : Plans := fun id => none
def TryzF158 : Fun := funX Tryz.prog TryzG (fun _ => true) Tryze158 Tryzp158 lf Tryz.f158
theorem Tryzc158 : CallOk Tryz.prog TryzG 158 TryzF158 := funX_ok Tryzmix (callsOk_cons Tryzc229 (callsOk_cons Tryzc230 callsOk_0)) Tryz.func158 (by kernel_rfl)

/-! 70: (*pillarbox/jmap.Server).known -/
def Tryze70 : FuncId → Option Fun := fun f => match Nat.beq f 158 with | true => some TryzF158 | false => none
def Tryzp70 : Plans := fun id => none
def TryzF70 : Fun := funX Tryz.prog TryzG (fun _ => true) Tryze70 Tryzp70 lf Tryz.f70
theorem Tryzc70 : CallOk Tryz.prog TryzG 70 TryzF70 := funX_ok Tryzmix (callsOk_cons Tryzc158 callsOk_0) Tryz.func70 (by kernel_rfl)

/-! 25: (*pillarbox/jmap.Server).one -/
def Tryze25 : FuncId → Option Fun := fun f => match Nat.beq f 68 with | true => some TryzF68 | false => match Nat.beq f 69 with | true => some TryzF69 | false => match Nat.beq f 70 with | true => some TryzF70 | false => none
def Tryzp25 : Plans := fun id => match Nat.beq id 4 with | true => some ([0, 0, 2, 6, 0, 0, 63, 127, 255], [(0, .pure), (1, .pure), (2, .pure), (3, .pure), (4, .pure), (5, .read 0), (6, .pure), (7, .alloc), (8, .pure)]) | false => match Nat.beq id 5 with | true => some ([0, 0, 2, 0, 8, 0, 32, 120, 255, 511, 1023, 1023, 2047, 8191], [(3, .pure), (4, .heavy), (0, .pure), (1, .pure), (2, .read 1), (5, .pure), (6, .read 1), (7, .read 0), (8, .heavy), (9, .pure), (10, .pure), (12, .heavy), (11, .pure), (13, .pure)]) | false => match Nat.beq id 7 with | true => some ([0, 0, 3, 7, 15, 0, 32, 127, 255], [(0, .heavy), (1, .pure), (2, .heavy), (3, .alloc), (4, .heavy), (5, .pure), (6, .read 3), (7, .pure), (8, .heavy)]) | false => none
def TryzF25 : Fun := funX Tryz.prog TryzG (fun _ => true) Tryze25 Tryzp25 lf Tryz.f25
theorem Tryzc25 : CallOk Tryz.prog TryzG 25 TryzF25 := funX_ok Tryzmix (callsOk_cons Tryzc68 (callsOk_cons Tryzc69 (callsOk_cons Tryzc70 callsOk_0))) Tryz.func25 (by kernel_rfl)

/-! 7: (*pillarbox/jmap.Server).Request -/
def Tryze7 : FuncId → Option Fun := fun f => match Nat.beq f 19 with | true => some TryzF19 | false => match Nat.beq f 21 with | true => some TryzF21 | false => match Nat.beq f 22 with | true => some TryzF22 | false => match Nat.beq f 23 with | true => some TryzF23 | false => match Nat.beq f 24 with | true => some TryzF24 | false => match Nat.beq f 25 with | true => some TryzF25 | false => none
def Tryzp7 : Plans := fun id => match Nat.beq id 6 with | true => some ([0, 1, 0, 4, 12, 28, 60, 127, 0, 256, 768, 1792, 3840, 8191, 0, 16639, 65535], [(0, .pure), (1, .heavy), (2, .pure), (3, .pure), (4, .pure), (5, .pure), (6, .read 1), (7, .heavy), (8, .pure), (9, .pure), (10, .pure), (11, .pure), (12, .read 2), (13, .pure), (14, .alloc), (15, .pure), (16, .heavy)]) | false => none
def TryzF7 : Fun := funX Tryz.prog TryzG (fun _ => true) Tryze7 Tryzp7 lf Tryz.f7
theorem Tryzc7 : CallOk Tryz.prog TryzG 7 TryzF7 := funX_ok Tryzmix (callsOk_cons Tryzc19 (callsOk_cons Tryzc21 (callsOk_cons Tryzc22 (callsOk_cons Tryzc23 (callsOk_cons Tryzc24 (callsOk_cons Tryzc25 callsOk_0)))))) Tryz.func7 (by kernel_rfl)

/-! 12: pillarbox/pillarboxlaw27.answer -/
def Tryze12 : FuncId → Option Fun := fun f => match Nat.beq f 7 with | true => some TryzF7 | false => match Nat.beq f 30 with | true => some TryzF30 | false => match Nat.beq f 31 with | true => some TryzF31 | false => match Nat.beq f 32 with | true => some TryzF32 | false => none
def Tryzp12 : Plans := fun id => match Nat.beq id 5 with | true => some ([0, 1, 3, 7, 15, 31, 63, 127, 0, 256, 768, 1792, 3840, 7936, 16128, 255, 65535], [(0, .pure), (1, .read 0), (2, .pure), (3, .pure), (4, .read 0), (5, .pure), (6, .pure), (7, .read 0), (8, .pure), (9, .read 0), (10, .pure), (11, .pure), (12, .read 0), (13, .pure), (14, .read 0), (15, .pure), (16, .heavy)]) | false => none
def TryzF12 : Fun := funX Tryz.prog TryzG (fun _ => true) Tryze12 Tryzp12 lf Tryz.f12
theorem Tryzc12 : CallOk Tryz.prog TryzG 12 TryzF12 := funX_ok Tryzmix (callsOk_cons Tryzc7 (callsOk_cons Tryzc30 (callsOk_cons Tryzc31 (callsOk_cons Tryzc32 callsOk_0)))) Tryz.func12 (by kernel_rfl)

/-! 4: pillarbox/pillarboxlaw27.awake -/
def Tryze4 : FuncId → Option Fun := fun f => match Nat.beq f 6 with | true => some TryzF6 | false => match Nat.beq f 9 with | true => some TryzF9 | false => match Nat.beq f 10 with | true => some TryzF10 | false => match Nat.beq f 11 with | true => some TryzF11 | false => match Nat.beq f 12 with | true => some TryzF12 | false => match Nat.beq f 13 with | true => some TryzF13 | false => match Nat.beq f 14 with | true => some TryzF14 | false => match Nat.beq f 15 with | true => some TryzF15 | false => match Nat.beq f 16 with | true => some TryzF16 | false => none
def Tryzp4 : Plans := fun id => match Nat.beq id 6 with | true => some ([0, 1, 3, 7, 7, 23, 55, 119, 255, 511, 1023], [(0, .pure), (1, .pure), (2, .pure), (4, .heavy), (5, .heavy), (6, .alloc), (7, .heavy), (3, .read 3), (8, .heavy), (9, .pure), (10, .pure)]) | false => none
def TryzF4 : Fun := funX Tryz.prog TryzG (fun _ => true) Tryze4 Tryzp4 lf Tryz.f4
theorem Tryzc4 : CallOk Tryz.prog TryzG 4 TryzF4 := funX_ok Tryzmix (callsOk_cons Tryzc6 (callsOk_cons Tryzc9 (callsOk_cons Tryzc10 (callsOk_cons Tryzc11 (callsOk_cons Tryzc12 (callsOk_cons Tryzc13 (callsOk_cons Tryzc14 (callsOk_cons Tryzc15 (callsOk_cons Tryzc16 callsOk_0))))))))) Tryz.func4 (by kernel_rfl)

end Go.Proofs.YtlonkmaeghglnaaGreatDoor
