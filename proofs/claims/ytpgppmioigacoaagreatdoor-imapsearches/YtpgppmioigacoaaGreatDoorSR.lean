/- Part of the claim: facts that its last text uses. No conditions. -/
import GoSem.ClaimFn
set_option linter.all false
/- The closure of a road, in steps: so that no single check of the kernel goes over all of it. -/
namespace Go.Vm
open Go
/-- k steps of the closure: what is to be done, what is seen -/
def cloSteps (P : Program) : Nat → List FuncId → List FuncId → List FuncId × List FuncId
  | 0, todo, seen => (todo, seen)
  | _ + 1, [], seen => ([], seen)
  | k + 1, f :: todo, seen => if seen.contains f then cloSteps P k todo seen else cloSteps P k ((P.funcs[f]?).elim [] P.leadsTo ++ todo) (f :: seen)
theorem closureVia_nil (P : Program) : ∀ (n : Nat) (seen : List FuncId), P.closureVia n [] seen = seen.reverse
  | 0, _ => rfl
  | _ + 1, _ => rfl
theorem via_cons (P : Program) (n f : Nat) (todo seen : List FuncId) : P.closureVia (n + 1) (f :: todo) seen = if seen.contains f then P.closureVia n todo seen else P.closureVia n ((P.funcs[f]?).elim [] P.leadsTo ++ todo) (f :: seen) := rfl
theorem steps_cons (P : Program) (n f : Nat) (todo seen : List FuncId) : cloSteps P (n + 1) (f :: todo) seen = if seen.contains f then cloSteps P n todo seen else cloSteps P n ((P.funcs[f]?).elim [] P.leadsTo ++ todo) (f :: seen) := rfl
theorem closureVia_steps (P : Program) : ∀ (k n : Nat) (todo seen : List FuncId), P.closureVia (n + k) todo seen = P.closureVia n (cloSteps P k todo seen).1 (cloSteps P k todo seen).2
  | 0, n, todo, seen => rfl
  | k + 1, n, [], seen => by rw [closureVia_nil]; exact (closureVia_nil P n seen).symm
  | k + 1, n, f :: todo, seen => by
    rw [show n + (k + 1) = (n + k) + 1 by omega, via_cons, steps_cons]
    split
    · exact closureVia_steps P k n todo seen
    · exact closureVia_steps P k n _ _
theorem cloSteps_add (P : Program) : ∀ (k m : Nat) (todo seen : List FuncId), cloSteps P (k + m) todo seen = cloSteps P m (cloSteps P k todo seen).1 (cloSteps P k todo seen).2
  | 0, m, todo, seen => by rw [Nat.zero_add]; rfl
  | k + 1, m, [], seen => by
    have : ∀ (k : Nat) (s : List FuncId), cloSteps P k [] s = ([], s) := fun k s => by cases k <;> rfl
    rw [this, this, this]
  | k + 1, m, f :: todo, seen => by
    rw [show k + 1 + m = (k + m) + 1 by omega, steps_cons, steps_cons]
    split
    · exact cloSteps_add P k m todo seen
    · exact cloSteps_add P k m _ _
theorem cloSteps_then {P : Program} {k m : Nat} {a b c d e f : List FuncId} (h1 : cloSteps P k a b = (c, d)) (h2 : cloSteps P m c d = (e, f)) : cloSteps P (k + m) a b = (e, f) := by rw [cloSteps_add, h1]; exact h2
/-- the sum of the fuel, piece by piece -/
def leadN (P : Program) (l : List Func) : Nat := (l.map fun g => (P.leadsTo g).length + 1).sum
theorem leadN_split (P : Program) (l : List Func) (a : Nat) : leadN P l = leadN P (l.take a) + leadN P (l.drop a) := by
  unfold leadN
  rw [← List.sum_append, ← List.map_append, List.take_append_drop]
theorem leadN_more {P : Program} {l : List Func} {i c v w : Nat} (h1 : leadN P ((l.drop i).take c) = v) (h2 : w ≤ leadN P (l.drop (i + c))) : v + w ≤ leadN P (l.drop i) := by
  rw [leadN_split P (l.drop i) c, h1, List.drop_drop]
  omega
theorem closure_of_steps {P : Program} {f : FuncId} {k v : Nat} {s : List FuncId} (h : cloSteps P k [f] [] = ([], s)) (hv : v ≤ leadN P (P.funcs.toList.drop 0)) (hk : k ≤ 1 + v) : P.closure f = s.reverse := by
  unfold Program.closure
  rw [List.drop_zero] at hv
  unfold leadN at hv
  generalize (P.funcs.toList.map fun g => (P.leadsTo g).length + 1).sum = q at hv
  obtain ⟨n, e⟩ : ∃ n, 1 + q = n + k := ⟨1 + q - k, by omega⟩
  rw [e, closureVia_steps, h, closureVia_nil]
end Go.Vm
