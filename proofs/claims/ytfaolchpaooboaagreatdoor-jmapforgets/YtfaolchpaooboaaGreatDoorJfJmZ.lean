/- Part of the value machine, or of a walk by it: lemmas that the claim's last text uses. No conditions. -/
import Derived.Test.YtfaolchpaooboaaGreatDoorJfVmO
import Derived.Test.YtfaolchpaooboaaGreatDoorJfJFy0
import Derived.Test.YtfaolchpaooboaaGreatDoorJfJFy1
import Derived.Test.YtfaolchpaooboaaGreatDoorJfJFy2
import Derived.Test.YtfaolchpaooboaaGreatDoorJfVmI
set_option linter.unusedVariables false
set_option linter.unusedSimpArgs false
set_option linter.unnecessarySimpa false
noncomputable section
namespace Go.Proofs.Jm
open Go Go.Proofs Go.Vm
open Go.ChangeShapes Go.WideShapes Go.ChangeAt Go.RowKit
set_option linter.unusedVariables false
set_option linter.unusedSimpArgs false
set_option maxRecDepth 100000
set_option maxHeartbeats 4000000
theorem Fall : ∀ (k : Nat), k < 12 → ∀ (w : Bool) (x : V), isT (outR Tryz.prog [.tmp 4] (FT k w x)) = true
  | 0, _, true, x => Fc_0_t x
  | 0, _, false, x => Fc_0_f x
  | 1, _, true, x => Fc_1_t x
  | 1, _, false, x => Fc_1_f x
  | 2, _, true, x => Fc_2_t x
  | 2, _, false, x => Fc_2_f x
  | 3, _, true, x => Fc_3_t x
  | 3, _, false, x => Fc_3_f x
  | 4, _, true, x => Fc_4_t x
  | 4, _, false, x => Fc_4_f x
  | 5, _, true, x => Fc_5_t x
  | 5, _, false, x => Fc_5_f x
  | 6, _, true, x => Fc_6_t x
  | 6, _, false, x => Fc_6_f x
  | 7, _, true, x => Fc_7_t x
  | 7, _, false, x => Fc_7_f x
  | 8, _, true, x => Fc_8_t x
  | 8, _, false, x => Fc_8_f x
  | 9, _, true, x => Fc_9_t x
  | 9, _, false, x => Fc_9_f x
  | 10, _, true, x => Fc_10_t x
  | 10, _, false, x => Fc_10_f x
  | 11, _, true, x => Fc_11_t x
  | 11, _, false, x => Fc_11_f x
  | n + 12, h, _, _ => absurd h (by omega)
theorem Fpre (w : Bool) (x : V) : FP w x = some (FrF (FP w x), FrH (FP w x)) ∧ (FrF (FP w x)).get (Pos.of 0) = some x := by
  cases w with
  | true => exact ⟨Fp_t x, Fq_t x⟩
  | false => exact ⟨Fp_f x, Fq_f x⟩
theorem Frun (a : Nat) (ha : a < 256) (w : Bool) : isT (TryF3 [.int .u8 (a : Int), .bool w] (h0 TryG)) = true := by
  have key := Fall (a % 12) (by omega) w (.int .u8 (a : Int))
  obtain ⟨e1, f0⟩ := Fpre w (.int .u8 (a : Int))
  rw [TryF3_eq, FD]
  show isT (outR Tryz.prog [.tmp 4] (FC.fill Tryr3_5 (Ffr w (.int .u8 (a : Int))) (h0 TryG))) = true
  rw [Ctx.plug _ e1]
  have Tm : ((a : Nat) : Int).tmod 12 = ((a % 12 : Nat) : Int) := rfl
  have e5 : ∀ g, Tryr3_5 (FrF (FP w (.int .u8 (a : Int)))) g = .nor (T.set (some (.int .i64 ((a % 12 : Nat) : Int))) (Pos.of 7) (FrF (FP w (.int .u8 (a : Int))))) g := fun g => by
    simp (disch := omega) only [vmL, Nat.reduceEqDiff, reduceCtorEq, ↓reduceIte, vpL, vsL, vqL, Tryr3_5, f0, Tm]
  rw [e5]
  exact key
theorem u8_natF {z : Int} (h : (Lit.int .u8 z).wf = true) : ∃ a : Nat, z = (a : Int) ∧ a < 256 := by
  have h2 : 0 ≤ z ∧ z ≤ 255 := by
    unfold Lit.wf at h
    simp only [Bool.and_eq_true, decide_eq_true_eq] at h
    exact h
  exact ⟨z.toNat, by omega, by omega⟩
theorem walkOfJmapForgets {H : Type} {enc : TypeId × Value → H} {spare : Nat → Bool} {held : Bool} (W : World) {r : Reach} {b0 base : Nat} {v0 v1 : Value} {d0 d1 : DataW H} {p0 p1 : List MemPlace}
    (h0 : Value.okWide Tryz.prog W r b0 5 v0) (k0 : DataW.Trod enc Tryz.prog W base spare held 5 v0 d0 p0) (h1 : Value.okWide Tryz.prog W r b0 4 v1) (k1 : DataW.Trod enc Tryz.prog W base spare held 4 v1 d1 p1) :
    Calls Tryz.prog 3 #[v0, v1] W fun e W' => e = .returned (.bool true) ∧ Below W.heap.size W W' := by
  obtain ⟨z0, rfl, -, -, w0⟩ := open_int Tryz.underlying5 h0 k0
  obtain ⟨w, rfl, -, -⟩ := open_bool Tryz.underlying4 h1 k1
  obtain ⟨a, rfl, ha⟩ := u8_natF w0
  obtain ⟨h', e⟩ := isT_ok (Frun a ha w)
  exact calls_of_vm (cargs := [_, _]) (args := [_, _]) Tryc3 Tryz.func3 (by kernel_rfl) (c := codeOf Tryz.f3) (by kernel_rfl) (Seen.empty TryG W) ⟨_, _, rp_int _ .u8 a, ⟨_, [], rp_bool _ w, rfl, rfl⟩, rfl⟩ e
end Go.Proofs.Jm
