/- Part of the value machine, or of a walk by it: lemmas that the claim's last text uses. No conditions. -/
import Derived.Test.YtlafgccdobeinaaGreatDoorTVmO
import Derived.Test.YtlafgccdobeinaaGreatDoorTImM
import Derived.Test.YtlafgccdobeinaaGreatDoorTVmI
set_option linter.unusedVariables false
set_option linter.unusedSimpArgs false
set_option linter.unnecessarySimpa false
noncomputable section
namespace Go.Proofs.Im
open Go Go.Proofs Go.Vm Go.Ln
open Go.ChangeShapes Go.WideShapes Go.ChangeAt Go.RowKit
set_option linter.unusedVariables false
set_option maxRecDepth 100000
set_option linter.unusedSimpArgs false
def hpR (r : R V) : Hp := match r with | .ok _ h => h | .bad => h0 0
def posR (r : R V) : Pos := match r with | .ok v _ => (match v with | .ptr i _ => i | _ => Pos.of 0) | .bad => Pos.of 0
def r6 (h : Hp) : R V := ImF6 [.slice h.next 0 1 (.kn 1)] (h.new (.cells (.rw 9 true) [.str [120]]))
def r7 (h : Hp) : R V := ImF7 [] (hpR (r6 h))
def imP (o : Option Ob) : Pos := match o with | some b => (match b with | .cells _ l => (match nthV 4 l with | some v => (match v with | .map i => i | _ => Pos.of 0) | none => Pos.of 0) | _ => Pos.of 0) | none => Pos.of 0
def imR (h : Hp) : Pos := imP ((hpR (r7 h)).get (posR (r7 h)))
def clk (o : Option Ob) : Option Int := match o with | some b => (match b with | .cells _ l => (match nthV 9 l with | some v => (match v with | .int k n => (match k with | .i64 => some n | _ => none) | _ => none) | none => none) | _ => none) | none => none
structure Start (h : Hp) : Prop where
  a : r6 h = .ok (.ptr (posR (r6 h)) 0) (hpR (r6 h))
  b : r7 h = .ok (.ptr (posR (r7 h)) 0) (hpR (r7 h))
  c : (hpR (r7 h)).get (posR (r7 h)) = some (.cells (.rw tCn true) [.bool false, .nilp, .bool false, .int .i64 0, .map (imR h)])
  d : (hpR (r7 h)).get (imR h) = some (.map (cmdM (posR (r7 h))))
  e : clk ((hpR (r7 h)).get (posR (r6 h))) = some 2
  f1 : Nat.blt (posR (r6 h)).nat (hpR (r7 h)).next.nat = true
  f2 : Nat.beq (posR (r6 h)).nat (posR (r7 h)).nat = false
  f3 : Nat.beq (posR (r7 h)).nat (imR h).nat = false
  f4 : Nat.blt (posR (r7 h)).nat (hpR (r7 h)).next.nat = true
  f5 : Nat.blt (imR h).nat (hpR (r7 h)).next.nat = true
end Go.Proofs.Im

noncomputable section
namespace Go.Vm
section
variable {H : Type} {enc : TypeId × Value → H} {base : Nat} {spare : Nat → Bool} {held : Bool} {P : Program} {w : World}
end
end Go.Vm
namespace Go.Proofs.Im
open Go Go.Proofs Go.Vm Go.Ln
open Go.ChangeShapes Go.WideShapes Go.ChangeAt Go.RowKit
set_option linter.unusedVariables false
set_option maxRecDepth 100000
set_option linter.unusedSimpArgs false
theorem ne_of_beq {i j : Pos} (h : Nat.beq i.nat j.nat = false) : i ≠ j := fun e => by rw [e, Nat.beq_refl] at h; cases h
theorem lt_of_blt {a b : Nat} (h : Nat.blt a b = true) : a < b := by simpa [Nat.blt_eq] using h
end Go.Proofs.Im
