/- Part of the value machine, or of a walk by it: lemmas that the claim's last text uses. No conditions. -/
import Derived.Test.YtlonkmaeghglnaaGreatDoorJmapNilP
import Derived.Test.YtlonkmaeghglnaaGreatDoorJmapNilQ
import Derived.Test.YtlonkmaeghglnaaGreatDoorJmapNilR
set_option linter.unusedVariables false
set_option linter.unusedSimpArgs false
set_option linter.unnecessarySimpa false
noncomputable section
namespace Go.Proofs.YtlonkmaeghglnaaGreatDoor
open Go Go.Proofs Go.Vm
set_option linter.unusedVariables false
set_option maxRecDepth 1000000
set_option maxHeartbeats 40000000
def TryzF77m1 : Fun := memoF TryzF77 la1 lh1 lr1
theorem Tryzv77m1 : TryzF77 la1 lh1 = lr1 := lp1
theorem Tryzc77m1 : CallOk Tryz.prog TryzG 77 TryzF77m1 := memoF_ok Tryzc77 Tryzv77m1
def TryzF19m2 : Fun := memoF TryzF19 la2 lh2 lr2
theorem Tryzv19m2 : TryzF19 la2 lh2 = lr2 := lp2
theorem Tryzc19m2 : CallOk Tryz.prog TryzG 19 TryzF19m2 := memoF_ok Tryzc19 Tryzv19m2
def TryzF23m3 : Fun := memoF TryzF23 la3 lh3 lr3
theorem Tryzv23m3 : TryzF23 la3 lh3 = lr3 := lp3
theorem Tryzc23m3 : CallOk Tryz.prog TryzG 23 TryzF23m3 := memoF_ok Tryzc23 Tryzv23m3
def TryzF23m4 : Fun := memoF TryzF23m3 la4 lh4 lr4
theorem Tryzv23m4 : TryzF23m3 la4 lh4 = lr4 := (memo_miss (by kernel_rfl)).trans lp4
theorem Tryzc23m4 : CallOk Tryz.prog TryzG 23 TryzF23m4 := memoF_ok Tryzc23m3 Tryzv23m4
def TryzF30m5 : Fun := memoF TryzF30 la5 lh5 lr5
theorem Tryzv30m5 : TryzF30 la5 lh5 = lr5 := lp5
theorem Tryzc30m5 : CallOk Tryz.prog TryzG 30 TryzF30m5 := memoF_ok Tryzc30 Tryzv30m5
/-! 31: pillarbox/pillarboxlaw27.one -/
def Tryze31m : FuncId → Option Fun := fun f => match Nat.beq f 13 with | true => some TryzF13 | false => match Nat.beq f 14 with | true => some TryzF14 | false => match Nat.beq f 76 with | true => some TryzF76 | false => match Nat.beq f 77 with | true => some TryzF77m1 | false => none
def Tryzp31m : Plans := fun id => match Nat.beq id 1 with | true => some ([0, 1, 0, 3, 15, 31, 0, 127], [(0, .pure), (1, .heavy), (3, .heavy), (2, .read 2), (4, .alloc), (5, .heavy), (6, .alloc), (7, .heavy)]) | false => match Nat.beq id 2 with | true => some ([0, 1, 3, 0, 8, 31, 63, 127, 255, 511, 1023, 1023, 2047, 8191], [(0, .heavy), (1, .heavy), (2, .heavy), (3, .read 3), (4, .alloc), (5, .heavy), (6, .alloc), (7, .heavy), (8, .heavy), (9, .pure), (10, .pure), (11, .pure), (12, .pure), (13, .pure)]) | false => none
def TryzF31m : Fun := funX Tryz.prog TryzG (fun _ => true) Tryze31m Tryzp31m lf Tryz.f31
theorem Tryzc31m : CallOk Tryz.prog TryzG 31 TryzF31m := funX_ok Tryzmix (callsOk_cons Tryzc13 (callsOk_cons Tryzc14 (callsOk_cons Tryzc76 (callsOk_cons Tryzc77m1 callsOk_0)))) Tryz.func31 (by kernel_rfl)

/-! 7: (*pillarbox/jmap.Server).Request -/
def Tryze7m : FuncId → Option Fun := fun f => match Nat.beq f 19 with | true => some TryzF19m2 | false => match Nat.beq f 21 with | true => some TryzF21 | false => match Nat.beq f 22 with | true => some TryzF22 | false => match Nat.beq f 23 with | true => some TryzF23m4 | false => match Nat.beq f 24 with | true => some TryzF24 | false => match Nat.beq f 25 with | true => some TryzF25 | false => none
def Tryzp7m : Plans := fun id => match Nat.beq id 6 with | true => some ([0, 1, 0, 4, 12, 28, 60, 127, 0, 256, 768, 1792, 3840, 8191, 0, 16639, 65535], [(0, .pure), (1, .heavy), (2, .pure), (3, .pure), (4, .pure), (5, .pure), (6, .read 1), (7, .heavy), (8, .pure), (9, .pure), (10, .pure), (11, .pure), (12, .read 2), (13, .pure), (14, .alloc), (15, .pure), (16, .heavy)]) | false => none
def TryzF7m : Fun := funX Tryz.prog TryzG (fun _ => true) Tryze7m Tryzp7m lf Tryz.f7
theorem Tryzc7m : CallOk Tryz.prog TryzG 7 TryzF7m := funX_ok Tryzmix (callsOk_cons Tryzc19m2 (callsOk_cons Tryzc21 (callsOk_cons Tryzc22 (callsOk_cons Tryzc23m4 (callsOk_cons Tryzc24 (callsOk_cons Tryzc25 callsOk_0)))))) Tryz.func7 (by kernel_rfl)

/-! 12: pillarbox/pillarboxlaw27.answer -/
def Tryze12m : FuncId → Option Fun := fun f => match Nat.beq f 7 with | true => some TryzF7m | false => match Nat.beq f 30 with | true => some TryzF30m5 | false => match Nat.beq f 31 with | true => some TryzF31m | false => match Nat.beq f 32 with | true => some TryzF32 | false => none
def Tryzp12m : Plans := fun id => match Nat.beq id 5 with | true => some ([0, 1, 3, 7, 15, 31, 63, 127, 0, 256, 768, 1792, 3840, 7936, 16128, 255, 65535], [(0, .pure), (1, .read 0), (2, .pure), (3, .pure), (4, .read 0), (5, .pure), (6, .pure), (7, .read 0), (8, .pure), (9, .read 0), (10, .pure), (11, .pure), (12, .read 0), (13, .pure), (14, .read 0), (15, .pure), (16, .heavy)]) | false => none
def TryzF12m : Fun := funX Tryz.prog TryzG (fun _ => true) Tryze12m Tryzp12m lf Tryz.f12
theorem Tryzc12m : CallOk Tryz.prog TryzG 12 TryzF12m := funX_ok Tryzmix (callsOk_cons Tryzc7m (callsOk_cons Tryzc30m5 (callsOk_cons Tryzc31m (callsOk_cons Tryzc32 callsOk_0)))) Tryz.func12 (by kernel_rfl)

/-! 4: pillarbox/pillarboxlaw27.awake -/
def Tryze4m : FuncId → Option Fun := fun f => match Nat.beq f 6 with | true => some TryzF6 | false => match Nat.beq f 9 with | true => some TryzF9 | false => match Nat.beq f 10 with | true => some TryzF10 | false => match Nat.beq f 11 with | true => some TryzF11 | false => match Nat.beq f 12 with | true => some TryzF12m | false => match Nat.beq f 13 with | true => some TryzF13 | false => match Nat.beq f 14 with | true => some TryzF14 | false => match Nat.beq f 15 with | true => some TryzF15 | false => match Nat.beq f 16 with | true => some TryzF16 | false => none
def Tryzp4m : Plans := fun id => match Nat.beq id 6 with | true => some ([0, 1, 3, 7, 7, 23, 55, 119, 255, 511, 1023], [(0, .pure), (1, .pure), (2, .pure), (4, .heavy), (5, .heavy), (6, .alloc), (7, .heavy), (3, .read 3), (8, .heavy), (9, .pure), (10, .pure)]) | false => none
def TryzF4m : Fun := funX Tryz.prog TryzG (fun _ => true) Tryze4m Tryzp4m lf Tryz.f4
theorem Tryzc4m : CallOk Tryz.prog TryzG 4 TryzF4m := funX_ok Tryzmix (callsOk_cons Tryzc6 (callsOk_cons Tryzc9 (callsOk_cons Tryzc10 (callsOk_cons Tryzc11 (callsOk_cons Tryzc12m (callsOk_cons Tryzc13 (callsOk_cons Tryzc14 (callsOk_cons Tryzc15 (callsOk_cons Tryzc16 callsOk_0))))))))) Tryz.func4 (by kernel_rfl)

theorem awake_run : isT (TryzF4m [] (h0 TryzG)) = true := by kernel_rfl
end Go.Proofs.YtlonkmaeghglnaaGreatDoor
