/- Part of the value machine, or of a walk by it: lemmas that the claim's last text uses. No conditions. -/
import Derived.Test.YtlcpojnlmgkkcaaGreatDoorChecked
import Derived.KernelRfl
import Derived.Test.YtlcpojnlmgkkcaaGreatDoorVmE
set_option linter.unusedVariables false
set_option linter.unusedSimpArgs false
set_option linter.unnecessarySimpa false
noncomputable section
namespace Go.Proofs.YtlcpojnlmgkkcaaGreatDoor
open Go Go.Proofs Go.Vm
set_option linter.unusedVariables false
set_option maxRecDepth 100000
theorem Tryzmix : Tryz.prog.follows .mixedOrders = true := Tryz.checked.mixed
def TryzG : Nat := 7
/-! 6: pillarbox/pillarboxlaw18.Wide -/
def Tryze6 : FuncId → Option Fun := fun f => none
def Tryzp6 : Plans := fun id => none
def TryzF6 : Fun := funX Tryz.prog TryzG (fun _ => true) Tryze6 Tryzp6 lf Tryz.f6
theorem Tryzc6 : CallOk Tryz.prog TryzG 6 TryzF6 := funX_ok Tryzmix callsOk_0 Tryz.func6 (by kernel_rfl)

/-! 7: pillarbox/pillarboxlaw3.Num -/
def Tryze7 : FuncId → Option Fun := fun f => none
def Tryzp7 : Plans := fun id => none
def TryzF7 : Fun := funX Tryz.prog TryzG (fun _ => true) Tryze7 Tryzp7 lf Tryz.f7
theorem Tryzc7 : CallOk Tryz.prog TryzG 7 TryzF7 := funX_ok Tryzmix callsOk_0 Tryz.func7 (by kernel_rfl)

/-! 9: pillarbox/imap.New -/
def Tryze9 : FuncId → Option Fun := fun f => none
def Tryzp9 : Plans := fun id => none
def TryzF9 : Fun := funX Tryz.prog TryzG (fun _ => true) Tryze9 Tryzp9 lf Tryz.f9
theorem Tryzc9 : CallOk Tryz.prog TryzG 9 TryzF9 := funX_ok Tryzmix callsOk_0 Tryz.func9 (by kernel_rfl)

/-! 10: pillarbox/imap.Hello -/
def Tryze10 : FuncId → Option Fun := fun f => none
def Tryzp10 : Plans := fun id => none
def TryzF10 : Fun := funX Tryz.prog TryzG (fun _ => true) Tryze10 Tryzp10 lf Tryz.f10
theorem Tryzc10 : CallOk Tryz.prog TryzG 10 TryzF10 := funX_ok Tryzmix callsOk_0 Tryz.func10 (by kernel_rfl)

/-! 12: pillarbox/log.New -/
def Tryze12 : FuncId → Option Fun := fun f => none
def Tryzp12 : Plans := fun id => none
def TryzF12 : Fun := funX Tryz.prog TryzG (fun _ => true) Tryze12 Tryzp12 lf Tryz.f12
theorem Tryzc12 : CallOk Tryz.prog TryzG 12 TryzF12 := funX_ok Tryzmix callsOk_0 Tryz.func12 (by kernel_rfl)

/-! 14: pillarbox/line.New -/
def Tryze14 : FuncId → Option Fun := fun f => none
def Tryzp14 : Plans := fun id => none
def TryzF14 : Fun := funX Tryz.prog TryzG (fun _ => true) Tryze14 Tryzp14 lf Tryz.f14
theorem Tryzc14 : CallOk Tryz.prog TryzG 14 TryzF14 := funX_ok Tryzmix callsOk_0 Tryz.func14 (by kernel_rfl)

/-! 37: sync/atomic.StoreInt64 -/
def TryzF37 : Fun := atomStore
theorem Tryzc37 : CallOk Tryz.prog TryzG 37 TryzF37 := atomStore_ok Tryz.func37 (by kernel_rfl) (by kernel_rfl) (by kernel_rfl) (by kernel_rfl)

/-! 13: (*sync/atomic.Int64).Store -/
def Tryze13 : FuncId → Option Fun := fun f => match Nat.beq f 37 with | true => some TryzF37 | false => none
def Tryzp13 : Plans := fun id => none
def TryzF13 : Fun := funX Tryz.prog TryzG (fun _ => true) Tryze13 Tryzp13 lf Tryz.f13
theorem Tryzc13 : CallOk Tryz.prog TryzG 13 TryzF13 := funX_ok Tryzmix (callsOk_cons Tryzc37 callsOk_0) Tryz.func13 (by kernel_rfl)

/-! 41: pillarbox/imap.atom -/
def Tryze41 : FuncId → Option Fun := fun f => none
def Tryzp41 : Plans := fun id => none
def TryzF41 : Fun := funX Tryz.prog TryzG (fun _ => true) Tryze41 Tryzp41 lf Tryz.f41
theorem Tryzc41 : CallOk Tryz.prog TryzG 41 TryzF41 := funX_ok Tryzmix callsOk_0 Tryz.func41 (by kernel_rfl)

/-! 44: pillarbox/text.Fold -/
def Tryze44 : FuncId → Option Fun := fun f => none
def Tryzp44 : Plans := fun id => none
def TryzF44 : Fun := funX Tryz.prog TryzG (fun _ => true) Tryze44 Tryzp44 lf Tryz.f44
theorem Tryzc44 : CallOk Tryz.prog TryzG 44 TryzF44 := funX_ok Tryzmix callsOk_0 Tryz.func44 (by kernel_rfl)

/-! 46: (*pillarbox/view.View).Update -/
def Tryze46 : FuncId → Option Fun := fun f => none
def Tryzp46 : Plans := fun id => match Nat.beq id 18 with | true => some ([0, 1, 3, 7, 15, 3, 35, 99, 255, 511], [(0, .pure), (1, .pure), (5, .pure), (6, .read 0), (7, .heavy), (2, .pure), (3, .pure), (4, .read 1), (8, .pure), (9, .pure)]) | false => match Nat.beq id 20 with | true => some ([0, 0, 2, 0, 8, 24, 0, 64, 192, 504, 0, 1024, 3072, 8184, 16376, 32760, 65528, 131071], [(3, .pure), (4, .read 0), (5, .heavy), (6, .pure), (7, .pure), (8, .read 1), (9, .heavy), (10, .pure), (11, .pure), (12, .read 2), (13, .heavy), (0, .pure), (1, .pure), (2, .pure), (14, .pure), (15, .pure), (16, .alloc), (17, .heavy)]) | false => match Nat.beq id 22 with | true => some ([0, 1, 3, 7, 0, 16, 48, 112, 240, 15, 1023], [(0, .pure), (1, .pure), (2, .pure), (3, .read 0), (4, .pure), (5, .pure), (6, .pure), (7, .read 0), (8, .pure), (9, .pure), (10, .pure)]) | false => none
def TryzF46 : Fun := funX Tryz.prog TryzG (fun _ => true) Tryze46 Tryzp46 lf Tryz.f46
theorem Tryzc46 : CallOk Tryz.prog TryzG 46 TryzF46 := funX_ok Tryzmix callsOk_0 Tryz.func46 (by kernel_rfl)

/-! 48: (*strings.Builder).String -/
def Tryze48 : FuncId → Option Fun := fun f => none
def Tryzp48 : Plans := fun id => match Nat.beq id 1 with | true => some ([0, 1, 3, 7, 15, 0, 32, 96, 224, 480, 1023, 2047], [(0, .pure), (1, .pure), (2, .pure), (3, .read 0), (4, .heavy), (5, .pure), (6, .pure), (7, .pure), (8, .read 1), (9, .pure), (10, .heavy), (11, .pure)]) | false => none
def TryzF48 : Fun := funX Tryz.prog TryzG (fun _ => true) Tryze48 Tryzp48 lf Tryz.f48
theorem Tryzc48 : CallOk Tryz.prog TryzG 48 TryzF48 := funX_ok Tryzmix callsOk_0 Tryz.func48 (by kernel_rfl)

/-! 40: (*pillarbox/line.Reader).reset -/
def Tryze40 : FuncId → Option Fun := fun f => none
def Tryzp40 : Plans := fun id => none
def TryzF40 : Fun := funX Tryz.prog TryzG (fun _ => true) Tryze40 Tryzp40 lf Tryz.f40
theorem Tryzc40 : CallOk Tryz.prog TryzG 40 TryzF40 := funX_ok Tryzmix callsOk_0 Tryz.func40 (by kernel_rfl)

/-! 112: sync/atomic.AddInt64 -/
def TryzF112 : Fun := atomAdd .i64
theorem Tryzc112 : CallOk Tryz.prog TryzG 112 TryzF112 := atomAdd_ok Tryz.func112 (by kernel_rfl) (by kernel_rfl) (by kernel_rfl) .i64 (by kernel_rfl)

/-! 42: (*sync/atomic.Int64).Add -/
def Tryze42 : FuncId → Option Fun := fun f => match Nat.beq f 112 with | true => some TryzF112 | false => none
def Tryzp42 : Plans := fun id => none
def TryzF42 : Fun := funX Tryz.prog TryzG (fun _ => true) Tryze42 Tryzp42 lf Tryz.f42
theorem Tryzc42 : CallOk Tryz.prog TryzG 42 TryzF42 := funX_ok Tryzmix (callsOk_cons Tryzc112 callsOk_0) Tryz.func42 (by kernel_rfl)

/-! 18: (*pillarbox/imap.Conn).noop -/
def Tryze18 : FuncId → Option Fun := fun f => none
def Tryzp18 : Plans := fun id => none
def TryzF18 : Fun := funX Tryz.prog TryzG (fun _ => true) Tryze18 Tryzp18 lf Tryz.f18
theorem Tryzc18 : CallOk Tryz.prog TryzG 18 TryzF18 := funX_ok Tryzmix callsOk_0 Tryz.func18 (by kernel_rfl)

/-! 43: (*pillarbox/imap.Conn).run -/
def Tryze43 : FuncId → Option Fun := fun f => match Nat.beq f 18 with | true => some TryzF18 | false => none
def Tryzp43 : Plans := fun id => none
def TryzF43 : Fun := funX Tryz.prog TryzG (fun _ => true) Tryze43 Tryzp43 lf Tryz.f43
theorem Tryzc43 : CallOk Tryz.prog TryzG 43 TryzF43 := funX_ok Tryzmix (callsOk_cons Tryzc18 callsOk_0) Tryz.func43 (by kernel_rfl)

/-! 220: internal/bytealg.IndexByteString -/
def TryzF220 : Fun := idxF
theorem Tryzc220 : CallOk Tryz.prog TryzG 220 TryzF220 := idxF_ok Tryz.func220 (by kernel_rfl) (by kernel_rfl) (by kernel_rfl) (by kernel_rfl)

/-! 108: internal/stringslite.IndexByte -/
def Tryze108 : FuncId → Option Fun := fun f => match Nat.beq f 220 with | true => some TryzF220 | false => none
def Tryzp108 : Plans := fun id => none
def TryzF108 : Fun := funX Tryz.prog TryzG (fun _ => true) Tryze108 Tryzp108 lf Tryz.f108
theorem Tryzc108 : CallOk Tryz.prog TryzG 108 TryzF108 := funX_ok Tryzmix (callsOk_cons Tryzc220 callsOk_0) Tryz.func108 (by kernel_rfl)

/-! 36: strings.IndexByte -/
def Tryze36 : FuncId → Option Fun := fun f => match Nat.beq f 108 with | true => some TryzF108 | false => none
def Tryzp36 : Plans := fun id => none
def TryzF36 : Fun := funX Tryz.prog TryzG (fun _ => true) Tryze36 Tryzp36 lf Tryz.f36
theorem Tryzc36 : CallOk Tryz.prog TryzG 36 TryzF36 := funX_ok Tryzmix (callsOk_cons Tryzc108 callsOk_0) Tryz.func36 (by kernel_rfl)

/-! 11: pillarbox/text.Atom -/
def Tryze11 : FuncId → Option Fun := fun f => match Nat.beq f 36 with | true => some TryzF36 | false => none
def Tryzp11 : Plans := fun id => none
def TryzF11 : Fun := funX Tryz.prog TryzG (fun _ => true) Tryze11 Tryzp11 lf Tryz.f11
theorem Tryzc11 : CallOk Tryz.prog TryzG 11 TryzF11 := funX_ok Tryzmix (callsOk_cons Tryzc36 callsOk_0) Tryz.func11 (by kernel_rfl)

/-! 5: pillarbox/store.New -/
def Tryze5 : FuncId → Option Fun := fun f => match Nat.beq f 11 with | true => some TryzF11 | false => match Nat.beq f 12 with | true => some TryzF12 | false => match Nat.beq f 13 with | true => some TryzF13 | false => none
def Tryzp5 : Plans := fun id => none
def TryzF5 : Fun := funX Tryz.prog TryzG (fun _ => true) Tryze5 Tryzp5 lf Tryz.f5
theorem Tryzc5 : CallOk Tryz.prog TryzG 5 TryzF5 := funX_ok Tryzmix (callsOk_cons Tryzc11 (callsOk_cons Tryzc12 (callsOk_cons Tryzc13 callsOk_0))) Tryz.func5 (by kernel_rfl)

/-! 223: (*pillarbox/line.parser).rest -/
def Tryze223 : FuncId → Option Fun := fun f => none
def Tryzp223 : Plans := fun id => match Nat.beq id 1 with | true => some ([0, 1, 3, 7, 0, 16, 48, 112, 255, 511, 0, 1024, 3072, 7168, 16383, 32767], [(0, .pure), (1, .pure), (2, .pure), (3, .read 0), (4, .pure), (5, .pure), (6, .pure), (7, .read 0), (8, .pure), (9, .read 0), (10, .pure), (11, .pure), (12, .pure), (13, .read 0), (14, .pure), (15, .pure)]) | false => none
def TryzF223 : Fun := funX Tryz.prog TryzG (fun _ => true) Tryze223 Tryzp223 lf Tryz.f223
theorem Tryzc223 : CallOk Tryz.prog TryzG 223 TryzF223 := funX_ok Tryzmix callsOk_0 Tryz.func223 (by kernel_rfl)

/-! 318: (*pillarbox/line.parser).next -/
def Tryze318 : FuncId → Option Fun := fun f => match Nat.beq f 223 with | true => some TryzF223 | false => none
def Tryzp318 : Plans := fun id => none
def TryzF318 : Fun := funX Tryz.prog TryzG (fun _ => true) Tryze318 Tryzp318 lf Tryz.f318
theorem Tryzc318 : CallOk Tryz.prog TryzG 318 TryzF318 := funX_ok Tryzmix (callsOk_cons Tryzc223 callsOk_0) Tryz.func318 (by kernel_rfl)

/-! 382: (*pillarbox/line.parser).lit -/
def Tryze382 : FuncId → Option Fun := fun f => match Nat.beq f 223 with | true => some TryzF223 | false => none
def Tryzp382 : Plans := fun id => match Nat.beq id 1 with | true => some ([0, 1, 3, 7, 15, 31, 63, 127, 15, 271, 783, 1807, 3855, 8191, 16383, 32767], [(0, .pure), (1, .heavy), (2, .pure), (3, .pure), (4, .pure), (5, .pure), (6, .pure), (7, .read 0), (8, .pure), (9, .pure), (10, .pure), (11, .read 0), (12, .pure), (13, .pure), (14, .pure), (15, .pure)]) | false => none
def TryzF382 : Fun := funX Tryz.prog TryzG (fun _ => true) Tryze382 Tryzp382 lf Tryz.f382
theorem Tryzc382 : CallOk Tryz.prog TryzG 382 TryzF382 := funX_ok Tryzmix (callsOk_cons Tryzc223 callsOk_0) Tryz.func382 (by kernel_rfl)

/-! 317: (*pillarbox/line.parser).word -/
def Tryze317 : FuncId → Option Fun := fun f => match Nat.beq f 36 with | true => some TryzF36 | false => match Nat.beq f 223 with | true => some TryzF223 | false => match Nat.beq f 318 with | true => some TryzF318 | false => match Nat.beq f 382 with | true => some TryzF382 | false => none
def Tryzp317 : Plans := fun id => match Nat.beq id 2 with | true => some ([0, 1, 3, 7, 0, 16, 48, 112, 255, 511, 1023, 0, 4095], [(0, .pure), (1, .pure), (2, .pure), (3, .read 0), (4, .pure), (5, .pure), (6, .pure), (7, .read 0), (8, .pure), (9, .read 0), (10, .pure), (11, .alloc), (12, .heavy)]) | false => match Nat.beq id 17 with | true => some ([0, 0, 2, 6, 14, 30, 31, 127], [(1, .pure), (2, .pure), (3, .pure), (4, .heavy), (0, .read 1), (6, .heavy), (5, .pure), (7, .pure)]) | false => none
def TryzF317 : Fun := funX Tryz.prog TryzG (fun _ => true) Tryze317 Tryzp317 lf Tryz.f317
theorem Tryzc317 : CallOk Tryz.prog TryzG 317 TryzF317 := funX_ok Tryzmix (callsOk_cons Tryzc36 (callsOk_cons Tryzc223 (callsOk_cons Tryzc318 (callsOk_cons Tryzc382 callsOk_0)))) Tryz.func317 (by kernel_rfl)

/-! 222: (*pillarbox/line.parser).words -/
def Tryze222 : FuncId → Option Fun := fun f => match Nat.beq f 317 with | true => some TryzF317 | false => match Nat.beq f 318 with | true => some TryzF318 | false => none
def Tryzp222 : Plans := fun id => none
def TryzF222 : Fun := funX Tryz.prog TryzG (fun _ => true) Tryze222 Tryzp222 lf Tryz.f222
theorem Tryzc222 : CallOk Tryz.prog TryzG 222 TryzF222 := funX_ok Tryzmix (callsOk_cons Tryzc317 (callsOk_cons Tryzc318 callsOk_0)) Tryz.func222 (by kernel_rfl)

/-! 111: pillarbox/line.words -/
def Tryze111 : FuncId → Option Fun := fun f => match Nat.beq f 222 with | true => some TryzF222 | false => match Nat.beq f 223 with | true => some TryzF223 | false => none
def Tryzp111 : Plans := fun id => match Nat.beq id 10 with | true => some ([0, 0, 2, 6, 14, 30, 62, 126, 254, 510, 1022, 2046, 254, 4350, 16382, 32766, 255, 131071], [(1, .pure), (2, .pure), (3, .pure), (4, .heavy), (0, .pure), (5, .pure), (6, .pure), (7, .pure), (8, .pure), (9, .pure), (10, .pure), (11, .read 0), (12, .pure), (13, .pure), (14, .pure), (15, .pure), (16, .pure), (17, .pure)]) | false => none
def TryzF111 : Fun := funX Tryz.prog TryzG (fun _ => true) Tryze111 Tryzp111 lf Tryz.f111
theorem Tryzc111 : CallOk Tryz.prog TryzG 111 TryzF111 := funX_ok Tryzmix (callsOk_cons Tryzc222 (callsOk_cons Tryzc223 callsOk_0)) Tryz.func111 (by kernel_rfl)

/-! 224: internal/abi.NoEscape -/
def TryzF224 : Fun := sameF
theorem Tryzc224 : CallOk Tryz.prog TryzG 224 TryzF224 := sameF_ok Tryz.func224 (by kernel_rfl) (by kernel_rfl) (by kernel_rfl) (by kernel_rfl)

/-! 113: (*strings.Builder).copyCheck -/
def Tryze113 : FuncId → Option Fun := fun f => match Nat.beq f 224 with | true => some TryzF224 | false => none
def Tryzp113 : Plans := fun id => none
def TryzF113 : Fun := funX Tryz.prog TryzG (fun _ => true) Tryze113 Tryzp113 lf Tryz.f113
theorem Tryzc113 : CallOk Tryz.prog TryzG 113 TryzF113 := funX_ok Tryzmix (callsOk_cons Tryzc224 callsOk_0) Tryz.func113 (by kernel_rfl)

/-! 45: (*strings.Builder).WriteString -/
def Tryze45 : FuncId → Option Fun := fun f => match Nat.beq f 113 with | true => some TryzF113 | false => none
def Tryzp45 : Plans := fun id => none
def TryzF45 : Fun := funX Tryz.prog TryzG (fun _ => true) Tryze45 Tryzp45 lf Tryz.f45
theorem Tryzc45 : CallOk Tryz.prog TryzG 45 TryzF45 := funX_ok Tryzmix (callsOk_cons Tryzc113 callsOk_0) Tryz.func45 (by kernel_rfl)

/-! 231: internal/bytealg.LastIndexByteString -/
def Tryze231 : FuncId → Option Fun := fun f => none
def Tryzp231 : Plans := fun id => none
def TryzF231 : Fun := funX Tryz.prog TryzG (fun _ => true) Tryze231 Tryzp231 lf Tryz.f231
theorem Tryzc231 : CallOk Tryz.prog TryzG 231 TryzF231 := funX_ok Tryzmix callsOk_0 Tryz.func231 (by kernel_rfl)

/-! 125: strings.LastIndexByte -/
def Tryze125 : FuncId → Option Fun := fun f => match Nat.beq f 231 with | true => some TryzF231 | false => none
def Tryzp125 : Plans := fun id => none
def TryzF125 : Fun := funX Tryz.prog TryzG (fun _ => true) Tryze125 Tryzp125 lf Tryz.f125
theorem Tryzc125 : CallOk Tryz.prog TryzG 125 TryzF125 := funX_ok Tryzmix (callsOk_cons Tryzc231 callsOk_0) Tryz.func125 (by kernel_rfl)

/-! 316: internal/stringslite.HasSuffix -/
def Tryze316 : FuncId → Option Fun := fun f => none
def Tryzp316 : Plans := fun id => none
def TryzF316 : Fun := funX Tryz.prog TryzG (fun _ => true) Tryze316 Tryzp316 lf Tryz.f316
theorem Tryzc316 : CallOk Tryz.prog TryzG 316 TryzF316 := funX_ok Tryzmix callsOk_0 Tryz.func316 (by kernel_rfl)

/-! 221: internal/stringslite.TrimSuffix -/
def Tryze221 : FuncId → Option Fun := fun f => match Nat.beq f 316 with | true => some TryzF316 | false => none
def Tryzp221 : Plans := fun id => none
def TryzF221 : Fun := funX Tryz.prog TryzG (fun _ => true) Tryze221 Tryzp221 lf Tryz.f221
theorem Tryzc221 : CallOk Tryz.prog TryzG 221 TryzF221 := funX_ok Tryzmix (callsOk_cons Tryzc316 callsOk_0) Tryz.func221 (by kernel_rfl)

/-! 109: strings.TrimSuffix -/
def Tryze109 : FuncId → Option Fun := fun f => match Nat.beq f 221 with | true => some TryzF221 | false => none
def Tryzp109 : Plans := fun id => none
def TryzF109 : Fun := funX Tryz.prog TryzG (fun _ => true) Tryze109 Tryzp109 lf Tryz.f109
theorem Tryzc109 : CallOk Tryz.prog TryzG 109 TryzF109 := funX_ok Tryzmix (callsOk_cons Tryzc221 callsOk_0) Tryz.func109 (by kernel_rfl)

/-! 310: internal/stringslite.CutSuffix -/
def Tryze310 : FuncId → Option Fun := fun f => match Nat.beq f 316 with | true => some TryzF316 | false => none
def Tryzp310 : Plans := fun id => none
def TryzF310 : Fun := funX Tryz.prog TryzG (fun _ => true) Tryze310 Tryzp310 lf Tryz.f310
theorem Tryzc310 : CallOk Tryz.prog TryzG 310 TryzF310 := funX_ok Tryzmix (callsOk_cons Tryzc316 callsOk_0) Tryz.func310 (by kernel_rfl)

/-! 211: strings.CutSuffix -/
def Tryze211 : FuncId → Option Fun := fun f => match Nat.beq f 310 with | true => some TryzF310 | false => none
def Tryzp211 : Plans := fun id => none
def TryzF211 : Fun := funX Tryz.prog TryzG (fun _ => true) Tryze211 Tryzp211 lf Tryz.f211
theorem Tryzc211 : CallOk Tryz.prog TryzG 211 TryzF211 := funX_ok Tryzmix (callsOk_cons Tryzc310 callsOk_0) Tryz.func211 (by kernel_rfl)

/-! 110: pillarbox/line.marker -/
def Tryze110 : FuncId → Option Fun := fun f => match Nat.beq f 125 with | true => some TryzF125 | false => match Nat.beq f 211 with | true => some TryzF211 | false => none
def Tryzp110 : Plans := fun id => none
def TryzF110 : Fun := funX Tryz.prog TryzG (fun _ => true) Tryze110 Tryzp110 lf Tryz.f110
theorem Tryzc110 : CallOk Tryz.prog TryzG 110 TryzF110 := funX_ok Tryzmix (callsOk_cons Tryzc125 (callsOk_cons Tryzc211 callsOk_0)) Tryz.func110 (by kernel_rfl)

/-! 39: (*pillarbox/line.Reader).end -/
def Tryze39 : FuncId → Option Fun := fun f => match Nat.beq f 40 with | true => some TryzF40 | false => match Nat.beq f 109 with | true => some TryzF109 | false => match Nat.beq f 110 with | true => some TryzF110 | false => match Nat.beq f 111 with | true => some TryzF111 | false => none
def Tryzp39 : Plans := fun id => match Nat.beq id 5 with | true => some ([0, 1, 3, 7, 0, 16, 63, 0, 128, 384, 896, 2047, 4095, 8191, 8191, 16383, 65535], [(0, .pure), (1, .pure), (2, .pure), (3, .read 0), (4, .pure), (5, .alloc), (6, .heavy), (7, .pure), (8, .pure), (9, .pure), (10, .read 1), (11, .heavy), (12, .pure), (13, .pure), (14, .pure), (15, .pure), (16, .pure)]) | false => match Nat.beq id 10 with | true => some ([0, 0, 2, 6, 14, 0, 32, 96, 224, 510, 1023], [(0, .pure), (1, .pure), (2, .pure), (3, .pure), (4, .read 0), (5, .pure), (6, .pure), (7, .pure), (8, .read 0), (9, .pure), (10, .pure)]) | false => none
def TryzF39 : Fun := funX Tryz.prog TryzG (fun _ => true) Tryze39 Tryzp39 lf Tryz.f39
theorem Tryzc39 : CallOk Tryz.prog TryzG 39 TryzF39 := funX_ok Tryzmix (callsOk_cons Tryzc40 (callsOk_cons Tryzc109 (callsOk_cons Tryzc110 (callsOk_cons Tryzc111 callsOk_0)))) Tryz.func39 (by kernel_rfl)

/-! 15: (*pillarbox/line.Reader).Feed -/
def Tryze15 : FuncId → Option Fun := fun f => match Nat.beq f 39 with | true => some TryzF39 | false => none
def Tryzp15 : Plans := fun id => match Nat.beq id 10 with | true => some ([0, 1, 3, 7, 0, 16, 48, 112, 240, 511, 1023], [(0, .pure), (1, .pure), (2, .pure), (3, .read 0), (4, .pure), (5, .pure), (6, .pure), (7, .read 0), (8, .pure), (9, .pure), (10, .pure)]) | false => none
def TryzF15 : Fun := funX Tryz.prog TryzG (fun _ => true) Tryze15 Tryzp15 lf Tryz.f15
theorem Tryzc15 : CallOk Tryz.prog TryzG 15 TryzF15 := funX_ok Tryzmix (callsOk_cons Tryzc39 callsOk_0) Tryz.func15 (by kernel_rfl)

/-! 329: internal/bytealg.MakeNoZero -/
def TryzF329 : Fun := noZero 5
theorem Tryzc329 : CallOk Tryz.prog TryzG 329 TryzF329 := noZero_ok (ps := Tryz.f329.params) Tryz.func329 (by kernel_rfl) (by kernel_rfl) (by kernel_rfl) Tryz.underlying56 (by kernel_rfl)

/-! 246: (*strings.Builder).grow -/
def Tryze246 : FuncId → Option Fun := fun f => match Nat.beq f 329 with | true => some TryzF329 | false => none
def Tryzp246 : Plans := fun id => match Nat.beq id 0 with | true => some ([0, 1, 3, 7, 15, 31, 0, 127, 255, 0, 512, 1536, 3584, 7680, 16383, 32767], [(0, .pure), (1, .pure), (2, .pure), (3, .read 0), (4, .heavy), (5, .pure), (6, .pure), (7, .pure), (8, .heavy), (9, .pure), (10, .pure), (11, .pure), (12, .read 2), (13, .pure), (14, .pure), (15, .pure)]) | false => none
def TryzF246 : Fun := funX Tryz.prog TryzG (fun _ => true) Tryze246 Tryzp246 lf Tryz.f246
theorem Tryzc246 : CallOk Tryz.prog TryzG 246 TryzF246 := funX_ok Tryzmix (callsOk_cons Tryzc329 callsOk_0) Tryz.func246 (by kernel_rfl)

/-! 150: (*strings.Builder).Grow -/
def Tryze150 : FuncId → Option Fun := fun f => match Nat.beq f 113 with | true => some TryzF113 | false => match Nat.beq f 246 with | true => some TryzF246 | false => none
def Tryzp150 : Plans := fun id => match Nat.beq id 3 with | true => some ([0, 1, 3, 7, 15, 0, 32, 96, 224, 480, 1023, 0, 4095], [(0, .pure), (1, .pure), (2, .pure), (3, .read 0), (4, .heavy), (5, .pure), (6, .pure), (7, .pure), (8, .read 1), (9, .pure), (10, .pure), (11, .pure), (12, .pure)]) | false => none
def TryzF150 : Fun := funX Tryz.prog TryzG (fun _ => true) Tryze150 Tryzp150 lf Tryz.f150
theorem Tryzc150 : CallOk Tryz.prog TryzG 150 TryzF150 := funX_ok Tryzmix (callsOk_cons Tryzc113 (callsOk_cons Tryzc246 callsOk_0)) Tryz.func150 (by kernel_rfl)

/-! 70: strings.Join -/
def Tryze70 : FuncId → Option Fun := fun f => match Nat.beq f 45 with | true => some TryzF45 | false => match Nat.beq f 48 with | true => some TryzF48 | false => match Nat.beq f 150 with | true => some TryzF150 | false => none
def Tryzp70 : Plans := fun id => none
def TryzF70 : Fun := funX Tryz.prog TryzG (fun _ => true) Tryze70 Tryzp70 lf Tryz.f70
theorem Tryzc70 : CallOk Tryz.prog TryzG 70 TryzF70 := funX_ok Tryzmix (callsOk_cons Tryzc45 (callsOk_cons Tryzc48 (callsOk_cons Tryzc150 callsOk_0))) Tryz.func70 (by kernel_rfl)

/-! 47: (*pillarbox/imap.request).say -/
def Tryze47 : FuncId → Option Fun := fun f => match Nat.beq f 45 with | true => some TryzF45 | false => match Nat.beq f 70 with | true => some TryzF70 | false => none
def Tryzp47 : Plans := fun id => match Nat.beq id 0 with | true => some ([0, 1, 3, 0, 8, 31], [(3, .pure), (4, .heavy), (0, .pure), (1, .pure), (2, .pure), (5, .heavy)]) | false => none
def TryzF47 : Fun := funX Tryz.prog TryzG (fun _ => true) Tryze47 Tryzp47 lf Tryz.f47
theorem Tryzc47 : CallOk Tryz.prog TryzG 47 TryzF47 := funX_ok Tryzmix (callsOk_cons Tryzc45 (callsOk_cons Tryzc70 callsOk_0)) Tryz.func47 (by kernel_rfl)

/-! 16: (*pillarbox/imap.Conn).Do -/
def Tryze16 : FuncId → Option Fun := fun f => match Nat.beq f 41 with | true => some TryzF41 | false => match Nat.beq f 42 with | true => some TryzF42 | false => match Nat.beq f 43 with | true => some TryzF43 | false => match Nat.beq f 44 with | true => some TryzF44 | false => match Nat.beq f 45 with | true => some TryzF45 | false => match Nat.beq f 46 with | true => some TryzF46 | false => match Nat.beq f 47 with | true => some TryzF47 | false => match Nat.beq f 48 with | true => some TryzF48 | false => none
def Tryzp16 : Plans := fun id => match Nat.beq id 16 with | true => some ([0, 1, 3, 0, 8, 24, 56, 0, 0, 256, 768, 2040, 4095], [(3, .pure), (4, .pure), (5, .pure), (6, .read 0), (7, .pure), (8, .pure), (9, .read 0), (10, .pure), (11, .heavy), (0, .pure), (1, .pure), (2, .pure), (12, .heavy)]) | false => match Nat.beq id 20 with | true => some ([0, 1, 3, 7, 0, 16, 48, 15, 255], [(0, .pure), (1, .pure), (2, .pure), (3, .heavy), (4, .pure), (5, .read 1), (6, .pure), (7, .pure), (8, .pure)]) | false => none
def TryzF16 : Fun := funX Tryz.prog TryzG (fun _ => true) Tryze16 Tryzp16 lf Tryz.f16
theorem Tryzc16 : CallOk Tryz.prog TryzG 16 TryzF16 := funX_ok Tryzmix (callsOk_cons Tryzc41 (callsOk_cons Tryzc42 (callsOk_cons Tryzc43 (callsOk_cons Tryzc44 (callsOk_cons Tryzc45 (callsOk_cons Tryzc46 (callsOk_cons Tryzc47 (callsOk_cons Tryzc48 callsOk_0)))))))) Tryz.func16 (by kernel_rfl)

/-! 8: pillarbox/pillarboxlaw25.all -/
def Tryze8 : FuncId → Option Fun := fun f => match Nat.beq f 14 with | true => some TryzF14 | false => match Nat.beq f 15 with | true => some TryzF15 | false => match Nat.beq f 16 with | true => some TryzF16 | false => none
def Tryzp8 : Plans := fun id => none
def TryzF8 : Fun := funX Tryz.prog TryzG (fun _ => true) Tryze8 Tryzp8 lf Tryz.f8
theorem Tryzc8 : CallOk Tryz.prog TryzG 8 TryzF8 := funX_ok Tryzmix (callsOk_cons Tryzc14 (callsOk_cons Tryzc15 (callsOk_cons Tryzc16 callsOk_0))) Tryz.func8 (by kernel_rfl)

/-! 4: pillarbox/pillarboxlaw25.awake -/
def Tryze4 : FuncId → Option Fun := fun f => match Nat.beq f 5 with | true => some TryzF5 | false => match Nat.beq f 6 with | true => some TryzF6 | false => match Nat.beq f 7 with | true => some TryzF7 | false => match Nat.beq f 8 with | true => some TryzF8 | false => match Nat.beq f 9 with | true => some TryzF9 | false => match Nat.beq f 10 with | true => some TryzF10 | false => none
def Tryzp4 : Plans := fun id => none
def TryzF4 : Fun := funX Tryz.prog TryzG (fun _ => true) Tryze4 Tryzp4 lf Tryz.f4
theorem Tryzc4 : CallOk Tryz.prog TryzG 4 TryzF4 := funX_ok Tryzmix (callsOk_cons Tryzc5 (callsOk_cons Tryzc6 (callsOk_cons Tryzc7 (callsOk_cons Tryzc8 (callsOk_cons Tryzc9 (callsOk_cons Tryzc10 callsOk_0)))))) Tryz.func4 (by kernel_rfl)

end Go.Proofs.YtlcpojnlmgkkcaaGreatDoor
