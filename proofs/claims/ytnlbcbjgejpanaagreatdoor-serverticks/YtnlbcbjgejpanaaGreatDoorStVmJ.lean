/- Part of the value machine, or of a walk by it: lemmas that the claim's last text uses. No conditions. -/
import Derived.Test.YtnlbcbjgejpanaaGreatDoorStVmG
set_option linter.unusedVariables false
set_option linter.unusedSimpArgs false
set_option linter.unnecessarySimpa false
namespace Go.Vm
noncomputable section
variable {P : Program} {G : Nat}
def eqFn : Fn → Fn → Bool
  | .func g, x => (match x with | .func k => Nat.beq g k | _ => false)
  | _, _ => false
theorem eqFn_ok {f g : Fn} (h : eqFn f g = true) : f = g := by
  unfold eqFn at h
  split at h
  · split at h
    · rw [Nat.eq_of_beq_eq_true h]
    · cases h
  · cases h
def eqVV : V → V → Bool
  | .func f a b, x => (match x with | .func g c d => (match eqFn f g with | true => (match eqVV a c with | true => eqVV b d | false => false) | false => false) | _ => false)
  | .agg l, x => (match x with | .agg k => eqVV l k | _ => false)
  | .tuple l, x => (match x with | .tuple k => eqVV l k | _ => false)
  | .iface t v, x => (match x with | .iface u w => (match Nat.beq t u with | true => eqVV v w | false => false) | _ => false)
  | .cons a b, x => (match x with | .cons c d => (match eqVV a c with | true => eqVV b d | false => false) | _ => false)
  | v, x => eqV v x
theorem eqVV_ok : ∀ (a b : V), eqVV a b = true → a = b
  | .func f a b, x, h => by
    simp only [eqVV] at h
    split at h
    · split at h
      · rename_i e1
        split at h
        · rename_i e2
          rw [eqFn_ok e1, eqVV_ok a _ e2, eqVV_ok b _ h]
        · cases h
      · cases h
    · cases h
  | .agg l, x, h => by
    simp only [eqVV] at h
    split at h
    · rw [eqVV_ok l _ h]
    · cases h
  | .tuple l, x, h => by
    simp only [eqVV] at h
    split at h
    · rw [eqVV_ok l _ h]
    · cases h
  | .iface t v, x, h => by
    simp only [eqVV] at h
    split at h
    · split at h
      · rename_i e1
        rw [Nat.eq_of_beq_eq_true e1, eqVV_ok v _ h]
      · cases h
    · cases h
  | .cons a b, x, h => by
    simp only [eqVV] at h
    split at h
    · split at h
      · rename_i e2
        rw [eqVV_ok a _ e2, eqVV_ok b _ h]
      · cases h
    · cases h
  | .bool _, x, h => by unfold eqVV at h; exact eqV_ok h
  | .int _ _, x, h => by unfold eqVV at h; exact eqV_ok h
  | .str _, x, h => by unfold eqVV at h; exact eqV_ok h
  | .ptr _ _, x, h => by unfold eqVV at h; exact eqV_ok h
  | .nilp, x, h => by unfold eqVV at h; exact eqV_ok h
  | .slice _ _ _ _, x, h => by unfold eqVV at h; exact eqV_ok h
  | .nils, x, h => by unfold eqVV at h; exact eqV_ok h
  | .emp, x, h => by unfold eqVV at h; exact eqV_ok h
  | .map _, x, h => by unfold eqVV at h; exact eqV_ok h
  | .nilm, x, h => by unfold eqVV at h; exact eqV_ok h
  | .nilf, x, h => by unfold eqVV at h; exact eqV_ok h
  | .nili, x, h => by unfold eqVV at h; exact eqV_ok h
  | .nil, x, h => by unfold eqVV at h; exact eqV_ok h
def eqL : List V → List V → Bool
  | [], x => (match x with | [] => true | _ :: _ => false)
  | a :: l, x => (match x with | [] => false | b :: k => (match eqVV a b with | true => eqL l k | false => false))
theorem eqL_ok : ∀ {l k : List V}, eqL l k = true → l = k
  | [], k, h => by cases k with
    | nil => rfl
    | cons a k => cases h
  | a :: l, k, h => by
    cases k with
    | nil => cases h
    | cons b k =>
      simp only [eqL] at h
      split at h
      · rename_i e; rw [eqVV_ok _ _ e, eqL_ok h]
      · cases h
def eqEs : List (V × V) → List (V × V) → Bool
  | [], x => (match x with | [] => true | _ :: _ => false)
  | a :: l, x => (match x with | [] => false | b :: k => (match eqVV a.1 b.1, eqVV a.2 b.2 with | true, true => eqEs l k | _, _ => false))
theorem eqEs_ok : ∀ {l k : List (V × V)}, eqEs l k = true → l = k
  | [], k, h => by cases k with
    | nil => rfl
    | cons a k => cases h
  | a :: l, k, h => by
    cases k with
    | nil => cases h
    | cons b k =>
      simp only [eqEs] at h
      split at h
      · rename_i e1 e2
        obtain ⟨a1, a2⟩ := a
        obtain ⟨b1, b2⟩ := b
        have e1 := eqVV_ok _ _ e1
        have e2 := eqVV_ok _ _ e2
        simp only at e1 e2
        rw [e1, e2, eqEs_ok h]
      · cases h
def eqWr : Wr → Wr → Bool
  | .ro, x => (match x with | .ro => true | .rw _ _ => false)
  | .rw t f, x => (match x with | .ro => false | .rw u g => (match Nat.beq t u with | true => (match f, g with | true, true => true | false, false => true | true, false => false | false, true => false) | false => false))
theorem eqWr_ok {a b : Wr} (h : eqWr a b = true) : a = b := by
  cases a with
  | ro => cases b with
    | ro => rfl
    | rw t f => cases h
  | rw t f => cases b with
    | ro => cases h
    | rw u g =>
      simp only [eqWr] at h
      split at h
      · rename_i e
        rw [Nat.eq_of_beq_eq_true e]
        cases f <;> cases g <;> first | rfl | cases h
      · cases h
def eqOb (a b : Ob) : Bool := match a with
  | .cells w l => (match b with | .cells u k => (match eqWr w u with | true => eqL l k | false => false) | _ => false)
  | .bytes l => (match b with | .bytes k => eqL l k | _ => false)
  | .map l => (match b with | .map k => eqEs l k | _ => false)
  | _ => false
theorem eqOb_ok {a b : Ob} (h : eqOb a b = true) : a = b := by
  unfold eqOb at h
  split at h
  · split at h
    · split at h
      · rename_i e; rw [eqWr_ok e, eqL_ok h]
      · cases h
    · cases h
  · split at h
    · rw [eqL_ok h]
    · cases h
  · split at h
    · rw [eqEs_ok h]
    · cases h
  · cases h
end
end Go.Vm
