/- Part of the value machine, or of a walk by it: lemmas that the claim's last text uses. No conditions. -/
import Derived.Test.YtlafgccdobeinaaGreatDoorEVmO
import Derived.Test.YtlafgccdobeinaaGreatDoorESeC
import Derived.Test.YtlafgccdobeinaaGreatDoorESeD
import Derived.Test.YtlafgccdobeinaaGreatDoorESeE
import Derived.Test.YtlafgccdobeinaaGreatDoorESeF
import Derived.Test.YtlafgccdobeinaaGreatDoorEVmI
set_option linter.unusedVariables false
set_option linter.unusedSimpArgs false
set_option linter.unnecessarySimpa false
noncomputable section
namespace Go.Proofs.ImS
open Go Go.Proofs Go.Vm
open Go.ChangeShapes Go.WideShapes Go.ChangeAt Go.RowKit
set_option linter.unusedVariables false
set_option maxRecDepth 100000
set_option maxHeartbeats 4000000
theorem seen_all : ∀ (i : Nat), i < 9 → ∀ (q w : Bool) (x : V), isT (outR Tryz.prog [.tmp 4] (seenT i q w x)) = true
  | 0, _, true, true, x => seen_0_tt x
  | 0, _, true, false, x => seen_0_tf x
  | 0, _, false, true, x => seen_0_ft x
  | 0, _, false, false, x => seen_0_ff x
  | 1, _, true, true, x => seen_1_tt x
  | 1, _, true, false, x => seen_1_tf x
  | 1, _, false, true, x => seen_1_ft x
  | 1, _, false, false, x => seen_1_ff x
  | 2, _, true, true, x => seen_2_tt x
  | 2, _, true, false, x => seen_2_tf x
  | 2, _, false, true, x => seen_2_ft x
  | 2, _, false, false, x => seen_2_ff x
  | 3, _, true, true, x => seen_3_tt x
  | 3, _, true, false, x => seen_3_tf x
  | 3, _, false, true, x => seen_3_ft x
  | 3, _, false, false, x => seen_3_ff x
  | 4, _, true, true, x => seen_4_tt x
  | 4, _, true, false, x => seen_4_tf x
  | 4, _, false, true, x => seen_4_ft x
  | 4, _, false, false, x => seen_4_ff x
  | 5, _, true, true, x => seen_5_tt x
  | 5, _, true, false, x => seen_5_tf x
  | 5, _, false, true, x => seen_5_ft x
  | 5, _, false, false, x => seen_5_ff x
  | 6, _, true, true, x => seen_6_tt x
  | 6, _, true, false, x => seen_6_tf x
  | 6, _, false, true, x => seen_6_ft x
  | 6, _, false, false, x => seen_6_ff x
  | 7, _, true, true, x => seen_7_tt x
  | 7, _, true, false, x => seen_7_tf x
  | 7, _, false, true, x => seen_7_ft x
  | 7, _, false, false, x => seen_7_ff x
  | 8, _, true, true, x => seen_8_tt x
  | 8, _, true, false, x => seen_8_tf x
  | 8, _, false, true, x => seen_8_ft x
  | 8, _, false, false, x => seen_8_ff x
  | n + 9, h, _, _, _ => absurd h (by omega)
theorem pre (w : Bool) (x : V) : ∃ fr h i, seenA w x = .nor fr h ∧ fr.get (Pos.of 0) = some x ∧ fr.get (Pos.of 8) = some (.slice i 0 9 (.kn 9)) := by
  cases w with
  | true =>
    obtain ⟨fr, h, e⟩ := isNor_ok (pre_t x)
    have e0 := pre_t0 x
    have e8 := pre_t8 x
    rw [e] at e0 e8
    exact ⟨fr, h, _, e, e0, e8⟩
  | false =>
    obtain ⟨fr, h, e⟩ := isNor_ok (pre_f x)
    have e0 := pre_f0 x
    have e8 := pre_f8 x
    rw [e] at e0 e8
    exact ⟨fr, h, _, e, e0, e8⟩
theorem seen_run (a : Nat) (ha : a < 256) (w : Bool) : isT (TryF5 [.int .u8 (a : Int), .bool w] (h0 TryG)) = true := by
  rw [TryF5_eq, seen_d, show T.set (some (.bool w)) (Pos.of 1) (T.set (some (.int .u8 (a : Int))) (Pos.of 0) T.nil) = fr0 w (.int .u8 (a : Int)) from rfl, seenP_eq]
  have key := seen_all (a % 9) (by omega) (decide (128 ≤ a)) w (.int .u8 (a : Int))
  obtain ⟨fr, h, i, e, f0, f8⟩ := pre w (.int .u8 (a : Int))
  unfold seenT at key
  rw [e, thenO_nor] at key
  rw [show seenP Out.nor (fr0 w (.int .u8 (a : Int))) (h0 TryG) = _ from e, thenO_nor]
  have L : ∀ h', oLenK 2 (.slice i 0 9 (.kn 9)) h' = .ok (.int .i64 9) h' := fun _ => rfl
  have Tm : ((a : Nat) : Int).tmod 9 = ((a % 9 : Nat) : Int) := rfl
  have D : decide (((a : Nat) : Int) ≥ 128) = decide (128 ≤ a) := by
    by_cases hb : 128 ≤ a
    · rw [decide_eq_true hb, decide_eq_true (by omega)]
    · rw [decide_eq_false hb, decide_eq_false (by omega)]
  have e11 : Tryr5_11 fr h = .nor (T.set (some (.int .i64 ((a % 9 : Nat) : Int))) (Pos.of 10) fr) h := by
    simp (disch := omega) only [vmL, Nat.reduceEqDiff, reduceCtorEq, ↓reduceIte, vpL, vsL, vqL, Tryr5_11, f0, f8, L, Tm]
  have e12 : ∀ v, Tryr5_12 (T.set (some v) (Pos.of 10) fr) h = .nor (T.set (some (.bool (decide (128 ≤ a)))) (Pos.of 11) (T.set (some v) (Pos.of 10) fr)) h := fun v => by
    simp (disch := omega) only [vmL, Nat.reduceEqDiff, reduceCtorEq, ↓reduceIte, vpL, vsL, vqL, Tryr5_12, f0, D]
  rw [seqO_eq, e11, thenO_nor, seqO_eq, e12, thenO_nor]
  exact key
theorem u8_nat {z : Int} (h : (Lit.int .u8 z).wf = true) : ∃ a : Nat, z = (a : Int) ∧ a < 256 := by
  have h2 : 0 ≤ z ∧ z ≤ 255 := by
    unfold Lit.wf at h
    simp only [Bool.and_eq_true, decide_eq_true_eq] at h
    exact h
  exact ⟨z.toNat, by omega, by omega⟩
theorem walkOfImapSeen {H : Type} {enc : TypeId × Value → H} {spare : Nat → Bool} {held : Bool} (W : World) {r : Reach} {b0 base : Nat} {v0 v1 : Value} {d0 d1 : DataW H} {p0 p1 : List MemPlace}
    (h0 : Value.okWide Tryz.prog W r b0 5 v0) (k0 : DataW.Trod enc Tryz.prog W base spare held 5 v0 d0 p0) (h1 : Value.okWide Tryz.prog W r b0 4 v1) (k1 : DataW.Trod enc Tryz.prog W base spare held 4 v1 d1 p1) :
    Calls Tryz.prog 5 #[v0, v1] W fun e W' => e = .returned (.bool true) ∧ Below W.heap.size W W' := by
  obtain ⟨z0, rfl, -, -, w0⟩ := open_int Tryz.underlying5 h0 k0
  obtain ⟨w, rfl, -, -⟩ := open_bool Tryz.underlying4 h1 k1
  obtain ⟨a, rfl, ha⟩ := u8_nat w0
  obtain ⟨h', e⟩ := isT_ok (seen_run a ha w)
  exact calls_of_vm (cargs := [_, _]) (args := [_, _]) Tryc5 Tryz.func5 (by kernel_rfl) (c := codeOf Tryz.f5) (by kernel_rfl) (Seen.empty TryG W) ⟨_, _, rp_int _ .u8 a, ⟨_, [], rp_bool _ w, rfl, rfl⟩, rfl⟩ e
end Go.Proofs.ImS
