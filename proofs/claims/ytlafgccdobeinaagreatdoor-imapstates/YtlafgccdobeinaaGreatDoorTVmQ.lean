/- Part of the value machine, or of a walk by it: lemmas that the claim's last text uses. No conditions. -/
import Derived.Test.YtlafgccdobeinaaGreatDoorTVmP
set_option linter.unusedVariables false
set_option linter.unusedSimpArgs false
set_option linter.unnecessarySimpa false
namespace Go.Vm
noncomputable section
variable {P : Program} {G : Nat}
end
end Go.Vm

namespace Go.Vm
noncomputable section
variable {P : Program} {G : Nat}
theorem fnRen_id {ρ : Pos → Pos} (h : ∀ i, ρ i = i) (f : Fn) : fnRen ρ f = f := by
  cases f <;> first | rfl | (simp only [fnRen, h, Pos.nat_of])
theorem V.ren_id {ρ : Pos → Pos} (h : ∀ i, ρ i = i) (v : V) : v.ren ρ = v := by
  induction v with
  | ptr i o => simp only [V.ren, h]
  | slice i o n c => simp only [V.ren, h]
  | map i => simp only [V.ren, h]
  | func fn a b iha ihb => simp only [V.ren, fnRen_id h, iha, ihb]
  | iface t v ih => simp only [V.ren, ih]
  | agg l ih => simp only [V.ren, ih]
  | tuple l ih => simp only [V.ren, ih]
  | cons a b iha ihb => simp only [V.ren, iha, ihb]
  | _ => rfl
def scalF (A : List V → Option V) (F : Fun) : Fun := fun args h => match A args with
  | some r => .ok r h
  | none => F args h
theorem scalF_ok {f : FuncId} {F : Fun} {A : List V → Option V} (hF : CallOk P G f F) (hA : ∀ args r, A args = some r → insL G args = true ∧ chkC G G [] [] r (F args (mkO G [])) = true) : CallOk P G f (scalF A F) := by
  intro args h r h' M w cargs e hr ha
  unfold scalF at e
  split at e
  · rename_i r' hr'
    cases e
    obtain ⟨a1, a2⟩ := hA _ _ hr'
    have hno : ∀ i, (mkO G []).get i = none := fun i => by rw [mkO_get]; split <;> rfl
    have hn : (mkO G []).next.nat = G := by rw [mkO_next]; rfl
    have hD := Does.comp hF hn a2
    have hrins : r.ins G = true := by
      unfold chkC at a2
      split at a2
      · simp only [Bool.and_eq_true] at a2; exact a2.1.2
      · cases a2
    have hG : ∀ g, g < G → g < h.next.nat := fun g hg => by
      rcases Nat.lt_or_ge g h.next.nat with q | q
      · exact q
      · obtain ⟨n, hn⟩ := hr.gl g hg
        rw [hr.fresh (Pos.of g) (by rw [Pos.nat_of]; exact q)] at hn; cases hn
    have S : Sub G (fun i => i) (mkO G []) h := ⟨fun i j _ _ e => e, fun i hi => by rw [hn] at hi; exact hG _ hi, (fun i o hi => by rw [hno] at hi; cases hi), fun g hg => ⟨by omega, rfl⟩⟩
    have gl : Glued (fun i => i) (mkO G []) (mkO G []) h h := ⟨by omega, fun i _ hne => absurd (hno i) hne, fun i h1 h2 => by omega, fun j _ _ => rfl⟩
    have hc := loc_core hD S (by rw [hn]; exact a1) gl (M := M) (w := w) (cargs := cargs) hr (by
      have : args.map (V.ren fun i => i) = args := by
        conv => rhs; rw [← List.map_id args]
        exact List.map_congr_left fun v _ => V.ren_id (fun _ => rfl) v
      rw [this]; exact ha)
    have e2 : r.ren (sig (fun i => i) (mkO G []).next.nat h.next.nat) = r := by
      rw [V.ren_congr (n := G) (σ := fun i => i) (fun i hi => sig_lt (by rw [hn]; exact hi)) hrins]
      exact V.ren_id (fun _ => rfl) r
    rw [e2] at hc
    exact hc
  · exact hF args h r h' M w cargs e hr ha
end
end Go.Vm
