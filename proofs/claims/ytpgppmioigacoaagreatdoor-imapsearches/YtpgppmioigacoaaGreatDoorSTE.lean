/- Part of the claim: facts that its last text uses. No conditions. -/
import Derived.Test.YtpgppmioigacoaaGreatDoorRows
import Derived.KernelRfl
import GoSem.ClaimDataLaid
set_option linter.all false
namespace Go.Proofs.YtpgppmioigacoaaGreatDoor.OwnLaid
open Go Go.Proofs Go.Proofs.YtpgppmioigacoaaGreatDoor
set_option maxRecDepth 100000
theorem types_n : Tryz.prog.types.size = 617 := by kernel_rfl
theorem all_more {f : Nat → Bool} {a c d : Nat} (h1 : (List.range' a c).all f = true) (h2 : (List.range' (a + c) d).all f = true) : (List.range' a (c + d)).all f = true := by
  have := List.range'_append (s := a) (m := c) (n := d) (step := 1)
  rw [Nat.one_mul] at this
  rw [← this, List.all_append, h1, h2]
  rfl
theorem fine0 : (List.range' 0 100).all (rowFine Tryz.prog) = true := by kernel_rfl
theorem fine100 : (List.range' 100 100).all (rowFine Tryz.prog) = true := by kernel_rfl
theorem fine200 : (List.range' 200 100).all (rowFine Tryz.prog) = true := by kernel_rfl
theorem fine300 : (List.range' 300 100).all (rowFine Tryz.prog) = true := by kernel_rfl
theorem fine400 : (List.range' 400 100).all (rowFine Tryz.prog) = true := by kernel_rfl
theorem fine500 : (List.range' 500 100).all (rowFine Tryz.prog) = true := by kernel_rfl
theorem fine600 : (List.range' 600 17).all (rowFine Tryz.prog) = true := by kernel_rfl
theorem fineAll : (List.range' 0 617).all (rowFine Tryz.prog) = true := (all_more (a := 0) (c := 100) (d := 517) fine0 (all_more (a := 100) (c := 100) (d := 417) fine100 (all_more (a := 200) (c := 100) (d := 317) fine200 (all_more (a := 300) (c := 100) (d := 217) fine300 (all_more (a := 400) (c := 100) (d := 117) fine400 (all_more (a := 500) (c := 100) (d := 17) fine500 fine600))))))
theorem globs : (Tryz.prog.globals.all fun g => decide (g.type < Tryz.prog.types.size)) = true := by kernel_rfl
theorem pars : (Tryz.prog.funcs.all fun f => f.params.all fun t => decide (t < Tryz.prog.types.size)) = true := by kernel_rfl
theorem laidOutP : laidOutB Tryz.prog = true := by
  unfold laidOutB
  rw [globs, pars, types_n, List.range_eq_range', fineAll]
  rfl
end Go.Proofs.YtpgppmioigacoaaGreatDoor.OwnLaid
