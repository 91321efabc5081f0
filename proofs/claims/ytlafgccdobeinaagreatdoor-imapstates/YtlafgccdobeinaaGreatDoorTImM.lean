/- Part of the value machine, or of a walk by it: lemmas that the claim's last text uses. No conditions. -/
import Derived.Test.YtlafgccdobeinaaGreatDoorTImJ
import Derived.Test.YtlafgccdobeinaaGreatDoorTImL
import Derived.Test.YtlafgccdobeinaaGreatDoorTVmO
set_option linter.unusedVariables false
set_option linter.unusedSimpArgs false
set_option linter.unnecessarySimpa false
noncomputable section
namespace Go.Proofs.Im
open Go Go.Proofs Go.Vm
set_option linter.unusedVariables false
set_option maxRecDepth 100000
set_option maxHeartbeats 4000000
abbrev ImF5 : Fun := Go.Proofs.ImW.TryF6c
theorem Imc5 : CallOk Tryz.prog TryG 6 ImF5 := Go.Proofs.ImW.Tryc6c
abbrev ImF6 : Fun := Go.Proofs.ImW.TryF7
theorem Imc6 : CallOk Tryz.prog TryG 7 ImF6 := Go.Proofs.ImW.Tryc7
end Go.Proofs.Im

noncomputable section
namespace Go.Ln
open Go Go.Vm Go.Proofs.Im
set_option maxRecDepth 100000
end Go.Ln
namespace Go.Proofs.Im
open Go Go.Proofs Go.Vm Go.Ln
set_option linter.unusedVariables false
set_option maxRecDepth 100000
set_option linter.unusedSimpArgs false
theorem load64_ok {h : Hp} {i : Pos} {q : Nat} {w : Wr} {l : List V} {n : Int} (hg : h.get i = some (.cells w l)) (hq : l[q]? = some (.int .i64 n)) : ImF37 [.ptr i q] h = .ok (.int .i64 n) h := by
  have e1 : ImF115 [.ptr i q] h = .ok (.int .i64 n) h := by
    show hCells h i _ = _
    rw [hCells_rowA (wr := w) (all := l) (by rw [hg]; rfl), nthV_eq, hq]
    rfl
  rw [ImF37_eq]
  simp (disch := omega) only [vmL, Nat.reduceEqDiff, reduceCtorEq, ↓reduceIte, vpL, vsL, vqL, Imd37, Imr37_0, Imr37_1, Nat.add_zero, e1]
  simp only [outR, resK, vmL, Nat.reduceEqDiff, reduceCtorEq, ↓reduceIte, vpL, vsL, vqL, tupR]
theorem clock_ok {h : Hp} {i : Pos} {w : Wr} {l : List V} {n : Int} (hg : h.get i = some (.cells w l)) (hq : l[9]? = some (.int .i64 n)) : ImF8 [.ptr i 0] h = .ok (.int .i64 n) h := by
  have e1 := load64_ok hg hq
  rw [ImF8_eq]
  simp (disch := omega) only [vmL, Nat.reduceEqDiff, reduceCtorEq, ↓reduceIte, vpL, vsL, vqL, Imd8, Imr8_0, Imr8_1, Imr8_3, ptr_eql_nil, e1]
  simp only [outR, resK, vmL, Nat.reduceEqDiff, reduceCtorEq, ↓reduceIte, vpL, vsL, vqL, tupR]
theorem awake_eq (h : Hp) : ImF5 [] h = .ok (.bool true) h := rfl
end Go.Proofs.Im
