/- Part of the value machine, or of a walk by it: lemmas that the claim's last text uses. No conditions. -/
import Derived.Test.YtghbifaaedobfaaGreatDoorChecked
import Derived.KernelRfl
import Derived.Test.YtghbifaaedobfaaGreatDoorVmE
import Derived.Test.YtghbifaaedobfaaGreatDoorVmH
set_option linter.unusedVariables false
set_option linter.unusedSimpArgs false
set_option linter.unnecessarySimpa false
noncomputable section
namespace Go.Proofs.YtghbifaaedobfaaGreatDoor
open Go Go.Proofs Go.Vm
set_option linter.unusedVariables false
set_option maxRecDepth 100000
set_option maxHeartbeats 4000000
theorem Tryzmix : Tryz.prog.follows .mixedOrders = true := Tryz.checked.mixed
def TryzG : Nat := 7
/-! 21: sync/atomic.AddInt64 -/
def TryzF21 : Fun := atomAdd .i64
theorem Tryzc21 : CallOk Tryz.prog TryzG 21 TryzF21 := atomAdd_ok Tryz.func21 (by kernel_rfl) (by kernel_rfl) (by kernel_rfl) .i64 (by kernel_rfl)

/-! 13: (*sync/atomic.Int64).Add -/
def Tryze13 : FuncId → Option Fun := fun f => match Nat.beq f 21 with | true => some TryzF21 | false => none
def Tryzp13 : Plans := fun id => none
def TryzF13 : Fun := funX Tryz.prog TryzG (fun _ => true) Tryze13 Tryzp13 lf Tryz.f13
theorem Tryzc13 : CallOk Tryz.prog TryzG 13 TryzF13 := funX_ok Tryzmix (callsOk_cons Tryzc21 callsOk_0) Tryz.func13 (by kernel_rfl)

/-! 23: pillarbox/imap.New -/
def Tryze23 : FuncId → Option Fun := fun f => none
def Tryzp23 : Plans := fun id => none
def TryzF23 : Fun := funX Tryz.prog TryzG (fun _ => true) Tryze23 Tryzp23 lf Tryz.f23
theorem Tryzc23 : CallOk Tryz.prog TryzG 23 TryzF23 := funX_ok Tryzmix callsOk_0 Tryz.func23 (by kernel_rfl)

/-! 24: pillarbox/line.New -/
def Tryze24 : FuncId → Option Fun := fun f => none
def Tryzp24 : Plans := fun id => none
def TryzF24 : Fun := funX Tryz.prog TryzG (fun _ => true) Tryze24 Tryzp24 lf Tryz.f24
theorem Tryzc24 : CallOk Tryz.prog TryzG 24 TryzF24 := funX_ok Tryzmix callsOk_0 Tryz.func24 (by kernel_rfl)

/-! 25: (*pillarbox/store.Store).Config -/
def Tryze25 : FuncId → Option Fun := fun f => none
def Tryzp25 : Plans := fun id => none
def TryzF25 : Fun := funX Tryz.prog TryzG (fun _ => true) Tryze25 Tryzp25 lf Tryz.f25
theorem Tryzc25 : CallOk Tryz.prog TryzG 25 TryzF25 := funX_ok Tryzmix callsOk_0 Tryz.func25 (by kernel_rfl)

/-! 26: pillarbox/imap.Hello -/
def Tryze26 : FuncId → Option Fun := fun f => none
def Tryzp26 : Plans := fun id => none
def TryzF26 : Fun := funX Tryz.prog TryzG (fun _ => true) Tryze26 Tryzp26 lf Tryz.f26
theorem Tryzc26 : CallOk Tryz.prog TryzG 26 TryzF26 := funX_ok Tryzmix callsOk_0 Tryz.func26 (by kernel_rfl)

/-! 37: pillarbox/log.New -/
def Tryze37 : FuncId → Option Fun := fun f => none
def Tryzp37 : Plans := fun id => none
def TryzF37 : Fun := funX Tryz.prog TryzG (fun _ => true) Tryze37 Tryzp37 lf Tryz.f37
theorem Tryzc37 : CallOk Tryz.prog TryzG 37 TryzF37 := funX_ok Tryzmix callsOk_0 Tryz.func37 (by kernel_rfl)

/-! 353: internal/bytealg.IndexByteString -/
def TryzF353 : Fun := idxF
theorem Tryzc353 : CallOk Tryz.prog TryzG 353 TryzF353 := idxF_ok Tryz.func353 (by kernel_rfl) (by kernel_rfl) (by kernel_rfl) (by kernel_rfl)

/-! 185: internal/stringslite.IndexByte -/
def Tryze185 : FuncId → Option Fun := fun f => match Nat.beq f 353 with | true => some TryzF353 | false => none
def Tryzp185 : Plans := fun id => none
def TryzF185 : Fun := funX Tryz.prog TryzG (fun _ => true) Tryze185 Tryzp185 lf Tryz.f185
theorem Tryzc185 : CallOk Tryz.prog TryzG 185 TryzF185 := funX_ok Tryzmix (callsOk_cons Tryzc353 callsOk_0) Tryz.func185 (by kernel_rfl)

/-! 86: strings.IndexByte -/
def Tryze86 : FuncId → Option Fun := fun f => match Nat.beq f 185 with | true => some TryzF185 | false => none
def Tryzp86 : Plans := fun id => none
def TryzF86 : Fun := funX Tryz.prog TryzG (fun _ => true) Tryze86 Tryzp86 lf Tryz.f86
theorem Tryzc86 : CallOk Tryz.prog TryzG 86 TryzF86 := funX_ok Tryzmix (callsOk_cons Tryzc185 callsOk_0) Tryz.func86 (by kernel_rfl)

/-! 36: pillarbox/text.Atom -/
def Tryze36 : FuncId → Option Fun := fun f => match Nat.beq f 86 with | true => some TryzF86 | false => none
def Tryzp36 : Plans := fun id => none
def TryzF36 : Fun := funX Tryz.prog TryzG (fun _ => true) Tryze36 Tryzp36 lf Tryz.f36
theorem Tryzc36 : CallOk Tryz.prog TryzG 36 TryzF36 := funX_ok Tryzmix (callsOk_cons Tryzc86 callsOk_0) Tryz.func36 (by kernel_rfl)

/-! 356: sync/atomic.StoreUint32 -/
def TryzF356 : Fun := atomStore
theorem Tryzc356 : CallOk Tryz.prog TryzG 356 TryzF356 := atomStore_ok Tryz.func356 (by kernel_rfl) (by kernel_rfl) (by kernel_rfl) (by kernel_rfl)

/-! 357: sync/atomic.b32 -/
def Tryze357 : FuncId → Option Fun := fun f => none
def Tryzp357 : Plans := fun id => none
def TryzF357 : Fun := funX Tryz.prog TryzG (fun _ => true) Tryze357 Tryzp357 lf Tryz.f357
theorem Tryzc357 : CallOk Tryz.prog TryzG 357 TryzF357 := funX_ok Tryzmix callsOk_0 Tryz.func357 (by kernel_rfl)

/-! 189: (*sync/atomic.Bool).Store -/
def Tryze189 : FuncId → Option Fun := fun f => match Nat.beq f 356 with | true => some TryzF356 | false => match Nat.beq f 357 with | true => some TryzF357 | false => none
def Tryzp189 : Plans := fun id => match Nat.beq id 0 with | true => some ([0, 1, 3, 0, 8, 31], [(3, .pure), (4, .heavy), (0, .pure), (1, .pure), (2, .pure), (5, .heavy)]) | false => none
def TryzF189 : Fun := funX Tryz.prog TryzG (fun _ => true) Tryze189 Tryzp189 lf Tryz.f189
theorem Tryzc189 : CallOk Tryz.prog TryzG 189 TryzF189 := funX_ok Tryzmix (callsOk_cons Tryzc356 (callsOk_cons Tryzc357 callsOk_0)) Tryz.func189 (by kernel_rfl)
theorem Tryzb189 : DCallOk Tryz.prog TryzG 189 TryzF189 := (funX_body Tryzmix (callsOk_cons Tryzc356 (callsOk_cons Tryzc357 callsOk_0)) Tryz.func189 (by kernel_rfl)).deferred

/-! 39: sync/atomic.LoadInt64 -/
def TryzF39 : Fun := atomLoad .i64
theorem Tryzc39 : CallOk Tryz.prog TryzG 39 TryzF39 := atomLoad_ok Tryz.func39 (by kernel_rfl) (by kernel_rfl) (by kernel_rfl) .i64 (by kernel_rfl)

/-! 19: (*sync/atomic.Int64).Load -/
def Tryze19 : FuncId → Option Fun := fun f => match Nat.beq f 39 with | true => some TryzF39 | false => none
def Tryzp19 : Plans := fun id => none
def TryzF19 : Fun := funX Tryz.prog TryzG (fun _ => true) Tryze19 Tryzp19 lf Tryz.f19
theorem Tryzc19 : CallOk Tryz.prog TryzG 19 TryzF19 := funX_ok Tryzmix (callsOk_cons Tryzc39 callsOk_0) Tryz.func19 (by kernel_rfl)

/-! 11: (*pillarbox/store.Store).Clock -/
def Tryze11 : FuncId → Option Fun := fun f => match Nat.beq f 19 with | true => some TryzF19 | false => none
def Tryzp11 : Plans := fun id => none
def TryzF11 : Fun := funX Tryz.prog TryzG (fun _ => true) Tryze11 Tryzp11 lf Tryz.f11
theorem Tryzc11 : CallOk Tryz.prog TryzG 11 TryzF11 := funX_ok Tryzmix (callsOk_cons Tryzc19 callsOk_0) Tryz.func11 (by kernel_rfl)

/-! 6: (*pillarbox/server.Server).Store -/
def Tryze6 : FuncId → Option Fun := fun f => none
def Tryzp6 : Plans := fun id => none
def TryzF6 : Fun := funX Tryz.prog TryzG (fun _ => true) Tryze6 Tryzp6 lf Tryz.f6
theorem Tryzc6 : CallOk Tryz.prog TryzG 6 TryzF6 := funX_ok Tryzmix callsOk_0 Tryz.func6 (by kernel_rfl)

/-! 480: internal/race.Disable -/
def TryzF480 : Fun := markF0
theorem Tryzc480 : CallOk Tryz.prog TryzG 480 TryzF480 := markF0_ok Tryz.func480 (by kernel_rfl) (by kernel_rfl) (by kernel_rfl) .disable (by kernel_rfl)

/-! 481: sync/atomic.CompareAndSwapInt32 -/
def TryzF481 : Fun := atomCas .i32
theorem Tryzc481 : CallOk Tryz.prog TryzG 481 TryzF481 := atomCas_ok Tryz.func481 (by kernel_rfl) (by kernel_rfl) (by kernel_rfl) .i32 (by kernel_rfl)

/-! 482: internal/race.Enable -/
def TryzF482 : Fun := markF0
theorem Tryzc482 : CallOk Tryz.prog TryzG 482 TryzF482 := markF0_ok Tryz.func482 (by kernel_rfl) (by kernel_rfl) (by kernel_rfl) .enable (by kernel_rfl)

/-! 483: internal/race.Acquire -/
def TryzF483 : Fun := markF1
theorem Tryzc483 : CallOk Tryz.prog TryzG 483 TryzF483 := markF1_ok Tryz.func483 (by kernel_rfl) (by kernel_rfl) (by kernel_rfl) .acquire (by kernel_rfl)

/-! 354: (*internal/sync.Mutex).Lock -/
def Tryze354 : FuncId → Option Fun := fun f => match Nat.beq f 480 with | true => some TryzF480 | false => match Nat.beq f 481 with | true => some TryzF481 | false => match Nat.beq f 482 with | true => some TryzF482 | false => match Nat.beq f 483 with | true => some TryzF483 | false => none
def Tryzp354 : Plans := fun id => none
def TryzF354 : Fun := funX Tryz.prog TryzG (fun _ => true) Tryze354 Tryzp354 lf Tryz.f354
theorem Tryzc354 : CallOk Tryz.prog TryzG 354 TryzF354 := funX_ok Tryzmix (callsOk_cons Tryzc480 (callsOk_cons Tryzc481 (callsOk_cons Tryzc482 (callsOk_cons Tryzc483 callsOk_0)))) Tryz.func354 (by kernel_rfl)

/-! 187: (*sync.Mutex).Lock -/
def Tryze187 : FuncId → Option Fun := fun f => match Nat.beq f 354 with | true => some TryzF354 | false => none
def Tryzp187 : Plans := fun id => none
def TryzF187 : Fun := funX Tryz.prog TryzG (fun _ => true) Tryze187 Tryzp187 lf Tryz.f187
theorem Tryzc187 : CallOk Tryz.prog TryzG 187 TryzF187 := funX_ok Tryzmix (callsOk_cons Tryzc354 callsOk_0) Tryz.func187 (by kernel_rfl)

/-! 485: internal/race.ReleaseMerge -/
def TryzF485 : Fun := markF1
theorem Tryzc485 : CallOk Tryz.prog TryzG 485 TryzF485 := markF1_ok Tryz.func485 (by kernel_rfl) (by kernel_rfl) (by kernel_rfl) .releaseMerge (by kernel_rfl)

/-! 486: sync/atomic.AddInt32 -/
def TryzF486 : Fun := atomAdd .i32
theorem Tryzc486 : CallOk Tryz.prog TryzG 486 TryzF486 := atomAdd_ok Tryz.func486 (by kernel_rfl) (by kernel_rfl) (by kernel_rfl) .i32 (by kernel_rfl)

/-! 355: (*internal/sync.Mutex).Unlock -/
def Tryze355 : FuncId → Option Fun := fun f => match Nat.beq f 480 with | true => some TryzF480 | false => match Nat.beq f 482 with | true => some TryzF482 | false => match Nat.beq f 485 with | true => some TryzF485 | false => match Nat.beq f 486 with | true => some TryzF486 | false => none
def Tryzp355 : Plans := fun id => none
def TryzF355 : Fun := funX Tryz.prog TryzG (fun _ => true) Tryze355 Tryzp355 lf Tryz.f355
theorem Tryzc355 : CallOk Tryz.prog TryzG 355 TryzF355 := funX_ok Tryzmix (callsOk_cons Tryzc480 (callsOk_cons Tryzc482 (callsOk_cons Tryzc485 (callsOk_cons Tryzc486 callsOk_0)))) Tryz.func355 (by kernel_rfl)

/-! 188: (*sync.Mutex).Unlock -/
def Tryze188 : FuncId → Option Fun := fun f => match Nat.beq f 355 with | true => some TryzF355 | false => none
def Tryzp188 : Plans := fun id => none
def TryzF188 : Fun := funX Tryz.prog TryzG (fun _ => true) Tryze188 Tryzp188 lf Tryz.f188
theorem Tryzc188 : CallOk Tryz.prog TryzG 188 TryzF188 := funX_ok Tryzmix (callsOk_cons Tryzc355 callsOk_0) Tryz.func188 (by kernel_rfl)
theorem Tryzb188 : DCallOk Tryz.prog TryzG 188 TryzF188 := (funX_body Tryzmix (callsOk_cons Tryzc355 callsOk_0) Tryz.func188 (by kernel_rfl)).deferred

/-! 87: sync/atomic.StoreInt64 -/
def TryzF87 : Fun := atomStore
theorem Tryzc87 : CallOk Tryz.prog TryzG 87 TryzF87 := atomStore_ok Tryz.func87 (by kernel_rfl) (by kernel_rfl) (by kernel_rfl) (by kernel_rfl)

/-! 38: (*sync/atomic.Int64).Store -/
def Tryze38 : FuncId → Option Fun := fun f => match Nat.beq f 87 with | true => some TryzF87 | false => none
def Tryzp38 : Plans := fun id => none
def TryzF38 : Fun := funX Tryz.prog TryzG (fun _ => true) Tryze38 Tryzp38 lf Tryz.f38
theorem Tryzc38 : CallOk Tryz.prog TryzG 38 TryzF38 := funX_ok Tryzmix (callsOk_cons Tryzc87 callsOk_0) Tryz.func38 (by kernel_rfl)

/-! 17: pillarbox/store.New -/
def Tryze17 : FuncId → Option Fun := fun f => match Nat.beq f 36 with | true => some TryzF36 | false => match Nat.beq f 37 with | true => some TryzF37 | false => match Nat.beq f 38 with | true => some TryzF38 | false => none
def Tryzp17 : Plans := fun id => none
def TryzF17 : Fun := funX Tryz.prog TryzG (fun _ => true) Tryze17 Tryzp17 lf Tryz.f17
theorem Tryzc17 : CallOk Tryz.prog TryzG 17 TryzF17 := funX_ok Tryzmix (callsOk_cons Tryzc36 (callsOk_cons Tryzc37 (callsOk_cons Tryzc38 callsOk_0))) Tryz.func17 (by kernel_rfl)

/-! 10: pillarbox/pillarboxlaw3.Num -/
def Tryze10 : FuncId → Option Fun := fun f => none
def Tryzp10 : Plans := fun id => none
def TryzF10 : Fun := funX Tryz.prog TryzG (fun _ => true) Tryze10 Tryzp10 lf Tryz.f10
theorem Tryzc10 : CallOk Tryz.prog TryzG 10 TryzF10 := funX_ok Tryzmix callsOk_0 Tryz.func10 (by kernel_rfl)

/-! 12: (*pillarbox/store.Store).Mails -/
def Tryze12 : FuncId → Option Fun := fun f => none
def Tryzp12 : Plans := fun id => none
def TryzF12 : Fun := funX Tryz.prog TryzG (fun _ => true) Tryze12 Tryzp12 lf Tryz.f12
theorem Tryzc12 : CallOk Tryz.prog TryzG 12 TryzF12 := funX_ok Tryzmix callsOk_0 Tryz.func12 (by kernel_rfl)

/-! 9: pillarbox/pillarboxlaw18.Wide -/
def Tryze9 : FuncId → Option Fun := fun f => none
def Tryzp9 : Plans := fun id => none
def TryzF9 : Fun := funX Tryz.prog TryzG (fun _ => true) Tryze9 Tryzp9 lf Tryz.f9
theorem Tryzc9 : CallOk Tryz.prog TryzG 9 TryzF9 := funX_ok Tryzmix callsOk_0 Tryz.func9 (by kernel_rfl)

/-! 14: pillarbox/server.tell -/
def Tryze14 : FuncId → Option Fun := fun f => none
def Tryzp14 : Plans := fun id => none
def TryzF14 : Fun := funX Tryz.prog TryzG (fun _ => true) Tryze14 Tryzp14 lf Tryz.f14
theorem Tryzc14 : CallOk Tryz.prog TryzG 14 TryzF14 := funX_ok Tryzmix callsOk_0 Tryz.func14 (by kernel_rfl)

/-! 18: pillarbox/jmap.New -/
def Tryze18 : FuncId → Option Fun := fun f => none
def Tryzp18 : Plans := fun id => none
def TryzF18 : Fun := funX Tryz.prog TryzG (fun _ => true) Tryze18 Tryzp18 lf Tryz.f18
theorem Tryzc18 : CallOk Tryz.prog TryzG 18 TryzF18 := funX_ok Tryzmix callsOk_0 Tryz.func18 (by kernel_rfl)

/-! 8: pillarbox/server.New -/
def Tryze8 : FuncId → Option Fun := fun f => match Nat.beq f 17 with | true => some TryzF17 | false => match Nat.beq f 18 with | true => some TryzF18 | false => none
def Tryzp8 : Plans := fun id => none
def TryzF8 : Fun := funX Tryz.prog TryzG (fun _ => true) Tryze8 Tryzp8 lf Tryz.f8
theorem Tryzc8 : CallOk Tryz.prog TryzG 8 TryzF8 := funX_ok Tryzmix (callsOk_cons Tryzc17 (callsOk_cons Tryzc18 callsOk_0)) Tryz.func8 (by kernel_rfl)

/-! 186: sync/atomic.LoadUint32 -/
def TryzF186 : Fun := atomLoad .u32
theorem Tryzc186 : CallOk Tryz.prog TryzG 186 TryzF186 := atomLoad_ok Tryz.func186 (by kernel_rfl) (by kernel_rfl) (by kernel_rfl) .u32 (by kernel_rfl)

/-! 88: (*sync/atomic.Bool).Load -/
def Tryze88 : FuncId → Option Fun := fun f => match Nat.beq f 186 with | true => some TryzF186 | false => none
def Tryzp88 : Plans := fun id => none
def TryzF88 : Fun := funX Tryz.prog TryzG (fun _ => true) Tryze88 Tryzp88 lf Tryz.f88
theorem Tryzc88 : CallOk Tryz.prog TryzG 88 TryzF88 := funX_ok Tryzmix (callsOk_cons Tryzc186 callsOk_0) Tryz.func88 (by kernel_rfl)

/-! 43: (*pillarbox/server.Server).at$1 -/
def Tryze43 : FuncId → Option Fun := fun f => none
def Tryzp43 : Plans := fun id => match Nat.beq id 0 with | true => some ([0, 0, 3, 7, 15], [(0, .read 0), (1, .alloc), (2, .pure), (3, .pure), (4, .heavy)]) | false => none
def TryzF43 : Fun := funX Tryz.prog TryzG (fun _ => true) Tryze43 Tryzp43 lf Tryz.f43
theorem Tryzc43 : CallOk Tryz.prog TryzG 43 TryzF43 := funX_ok Tryzmix callsOk_0 Tryz.func43 (by kernel_rfl)

/-! 89: (*sync.Once).doSlow -/
def Tryze89 : FuncId → Option Fun := fun f => match Nat.beq f 187 with | true => some TryzF187 | false => match Nat.beq f 43 with | true => some TryzF43 | false => match Nat.beq f 88 with | true => some TryzF88 | false => none
def Tryzp89 : Plans := fun id => none
def Tryzd89 : FuncId → Option Fun := fun f => match Nat.beq f 188 with | true => some TryzF188 | false => match Nat.beq f 189 with | true => some TryzF189 | false => none
def TryzF89 : Fun := funXT Tryz.prog TryzG (fun _ => true) Tryze89 Tryzd89 Tryzp89 lf Tryz.f89
theorem Tryzc89 : CallOk Tryz.prog TryzG 89 TryzF89 := funXT_ok Tryzmix (callsOk_cons Tryzc187 (callsOk_cons Tryzc43 (callsOk_cons Tryzc88 callsOk_0))) (dcallsOk_cons Tryzb188 (dcallsOk_cons Tryzb189 dcallsOk_0)) Tryz.func89 (by kernel_rfl)

/-! 42: (*sync.Once).Do -/
def Tryze42 : FuncId → Option Fun := fun f => match Nat.beq f 88 with | true => some TryzF88 | false => match Nat.beq f 89 with | true => some TryzF89 | false => none
def Tryzp42 : Plans := fun id => none
def TryzF42 : Fun := funX Tryz.prog TryzG (fun _ => true) Tryze42 Tryzp42 lf Tryz.f42
theorem Tryzc42 : CallOk Tryz.prog TryzG 42 TryzF42 := funX_ok Tryzmix (callsOk_cons Tryzc88 (callsOk_cons Tryzc89 callsOk_0)) Tryz.func42 (by kernel_rfl)

/-! 22: (*pillarbox/server.Server).at -/
def Tryze22 : FuncId → Option Fun := fun f => match Nat.beq f 42 with | true => some TryzF42 | false => none
def Tryzp22 : Plans := fun id => none
def TryzF22 : Fun := funX Tryz.prog TryzG (fun _ => true) Tryze22 Tryzp22 lf Tryz.f22
theorem Tryzc22 : CallOk Tryz.prog TryzG 22 TryzF22 := funX_ok Tryzmix (callsOk_cons Tryzc42 callsOk_0) Tryz.func22 (by kernel_rfl)

/-! 15: (*pillarbox/server.Server).wire -/
def Tryze15 : FuncId → Option Fun := fun f => match Nat.beq f 22 with | true => some TryzF22 | false => match Nat.beq f 23 with | true => some TryzF23 | false => match Nat.beq f 24 with | true => some TryzF24 | false => match Nat.beq f 25 with | true => some TryzF25 | false => match Nat.beq f 26 with | true => some TryzF26 | false => none
def Tryzp15 : Plans := fun id => match Nat.beq id 4 with | true => some ([0, 0, 0, 4, 12, 28, 62, 126, 254, 510, 1022, 2047, 4095], [(1, .heavy), (2, .pure), (3, .pure), (4, .pure), (5, .read 1), (6, .heavy), (7, .heavy), (8, .heavy), (0, .pure), (9, .pure), (10, .alloc), (11, .pure), (12, .heavy)]) | false => none
def TryzF15 : Fun := funX Tryz.prog TryzG (fun _ => true) Tryze15 Tryzp15 lf Tryz.f15
theorem Tryzc15 : CallOk Tryz.prog TryzG 15 TryzF15 := funX_ok Tryzmix (callsOk_cons Tryzc22 (callsOk_cons Tryzc23 (callsOk_cons Tryzc24 (callsOk_cons Tryzc25 (callsOk_cons Tryzc26 callsOk_0))))) Tryz.func15 (by kernel_rfl)

/-! 5: (*pillarbox/server.Server).Do -/
def Tryze5 : FuncId → Option Fun := fun f => match Nat.beq f 13 with | true => some TryzF13 | false => match Nat.beq f 14 with | true => some TryzF14 | false => match Nat.beq f 15 with | true => some TryzF15 | false => none
def Tryzp5 : Plans := fun id => match Nat.beq id 8 with | true => some ([0, 1, 0, 0, 12, 31, 63], [(2, .pure), (3, .read 0), (4, .heavy), (0, .pure), (1, .read 1), (5, .heavy), (6, .pure)]) | false => match Nat.beq id 10 with | true => some ([0, 1, 0, 4, 12, 28, 60, 127], [(0, .pure), (1, .read 0), (2, .pure), (3, .pure), (4, .pure), (5, .read 0), (6, .pure), (7, .pure)]) | false => match Nat.beq id 12 with | true => some ([0, 1, 3, 7, 0, 16, 48, 127, 255, 511, 1023], [(0, .pure), (1, .pure), (2, .pure), (3, .read 0), (4, .pure), (5, .read 0), (6, .pure), (7, .pure), (8, .pure), (9, .pure), (10, .heavy)]) | false => match Nat.beq id 14 with | true => some ([0, 1, 3, 7, 0, 16, 48, 112, 0, 256, 768, 1792, 0, 4096, 16383, 32767, 65535], [(0, .pure), (1, .pure), (2, .pure), (3, .read 0), (4, .pure), (5, .pure), (6, .pure), (7, .read 0), (8, .pure), (9, .pure), (10, .pure), (11, .read 0), (12, .pure), (13, .read 0), (14, .heavy), (15, .heavy), (16, .pure)]) | false => none
def TryzF5 : Fun := funX Tryz.prog TryzG (fun _ => true) Tryze5 Tryzp5 lf Tryz.f5
theorem Tryzc5 : CallOk Tryz.prog TryzG 5 TryzF5 := funX_ok Tryzmix (callsOk_cons Tryzc13 (callsOk_cons Tryzc14 (callsOk_cons Tryzc15 callsOk_0))) Tryz.func5 (by kernel_rfl)

/-! 7: pillarbox/pillarboxlaw28.awake -/
def Tryze7 : FuncId → Option Fun := fun f => match Nat.beq f 10 with | true => some TryzF10 | false => match Nat.beq f 5 with | true => some TryzF5 | false => match Nat.beq f 8 with | true => some TryzF8 | false => match Nat.beq f 9 with | true => some TryzF9 | false => none
def Tryzp7 : Plans := fun id => none
def TryzF7 : Fun := funX Tryz.prog TryzG (fun _ => true) Tryze7 Tryzp7 lf Tryz.f7
theorem Tryzc7 : CallOk Tryz.prog TryzG 7 TryzF7 := funX_ok Tryzmix (callsOk_cons Tryzc10 (callsOk_cons Tryzc5 (callsOk_cons Tryzc8 (callsOk_cons Tryzc9 callsOk_0)))) Tryz.func7 (by kernel_rfl)

end Go.Proofs.YtghbifaaedobfaaGreatDoor
