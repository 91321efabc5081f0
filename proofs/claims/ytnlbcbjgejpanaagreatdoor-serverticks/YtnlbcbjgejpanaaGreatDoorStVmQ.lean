/- Part of the value machine, or of a walk by it: lemmas that the claim's last text uses. No conditions. -/
import Derived.Test.YtnlbcbjgejpanaaGreatDoorStVmP
set_option linter.unusedVariables false
set_option linter.unusedSimpArgs false
set_option linter.unnecessarySimpa false
namespace Go.Vm
noncomputable section
variable {P : Program} {G : Nat}
def insO (n : Nat) : List Ob → Bool
  | [] => true
  | o :: l => o.ins n && insO n l
end
end Go.Vm

namespace Go.Vm
noncomputable section
variable {P : Program} {G : Nat}
theorem fnRen_id {ρ : Pos → Pos} (h : ∀ i, ρ i = i) (f : Fn) : fnRen ρ f = f := by
  cases f <;> first | rfl | (simp only [fnRen, h, Pos.nat_of])
theorem V.ren_id {ρ : Pos → Pos} (h : ∀ i, ρ i = i) (v : V) : v.ren ρ = v := by
  induction v with
  | ptr i o => simp only [V.ren, h]
  | slice i o n c => simp only [V.ren, h]
  | map i => simp only [V.ren, h]
  | func fn a b iha ihb => simp only [V.ren, fnRen_id h, iha, ihb]
  | iface t v ih => simp only [V.ren, ih]
  | agg l ih => simp only [V.ren, ih]
  | tuple l ih => simp only [V.ren, ih]
  | cons a b iha ihb => simp only [V.ren, iha, ihb]
  | _ => rfl
end
end Go.Vm
