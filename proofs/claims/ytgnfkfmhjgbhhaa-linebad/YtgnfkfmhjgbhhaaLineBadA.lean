/- Part of the value machine, or of a walk by it: lemmas that the claim's last text uses. No conditions. -/
import Derived.Test.YtgnfkfmhjgbhhaaChecked
import Derived.KernelRfl
import Derived.Test.YtgnfkfmhjgbhhaaLineA
set_option linter.unusedVariables false
set_option linter.unusedSimpArgs false
set_option linter.unnecessarySimpa false
noncomputable section
namespace Go.Proofs.Ytgnfkfmhjgbhhaa
open Go Go.Proofs Go.Vm
set_option linter.unusedVariables false
set_option maxRecDepth 100000
/-- ahead of the choice of the line -/
def badPre (K : F → Hp → Out) : F → Hp → Out := (seqO Tryr9_0 (seqO Tryr9_1 (seqO (seqO Tryr9_2 (cndX (.tmp 10) Tryr9_3 Out.nor)) (seqO Tryr9_4 (seqO Tryr9_5 (seqO (seqO Tryr9_6 (cndX (.tmp 14) (seqO Tryr9_7 Out.ret) Out.nor)) K))))))
def badFr (o : Out) : F := match o with | .nor fr _ => fr | .ret _ _ => T.nil | .ex _ _ _ => T.nil | .bad => T.nil
def badHp (o : Out) : Hp := match o with | .nor _ h => h | .ret _ _ => h00 | .ex _ _ _ => h00 | .bad => h00
def badAt (x : V) (b : Bool) : Out := badPre Out.nor (T.set (some (.bool b)) (Pos.of 1) (T.set (some x) (Pos.of 0) T.nil)) h00
theorem badPre_eq (K : F → Hp → Out) (x : V) (b : Bool) : badPre K (T.set (some (.bool b)) (Pos.of 1) (T.set (some x) (Pos.of 0) T.nil)) h00 = K (badFr (badAt x b)) (badHp (badAt x b)) := by
  cases b
  · kernel_rfl
  · kernel_rfl
theorem bad_f0 (x : V) (b : Bool) : T.get (badFr (badAt x b)) (Pos.of 0) = some x := by
  cases b
  · kernel_rfl
  · kernel_rfl
def bad6 (x : V) (b : Bool) : V := match T.get (badFr (badAt x b)) (Pos.of 6) with | some v => v | none => .nilp
theorem bad_f6 (x : V) (b : Bool) : T.get (badFr (badAt x b)) (Pos.of 6) = some (bad6 x b) := by
  cases b
  · kernel_rfl
  · kernel_rfl
theorem bad_len (x : V) (b : Bool) : oLenK 2 (bad6 x b) (badHp (badAt x b)) = .ok (.int .i64 19) (badHp (badAt x b)) := by
  cases b
  · kernel_rfl
  · kernel_rfl
/-- the rest, by the line's number -/
def badRest (k : Int) (fr : F) (h : Hp) : Out := seqO (fun fr h => gtO (T.get fr (Pos.of 6)) fun v6 => bndO (oIdxS 1 v6 (.int .i64 k) h) fun v21 h6 =>
  bndO (oLoad1 v21 h6) fun v22 h7 =>
  Out.nor (T.set (some v22) (Pos.of 8) fr) h7) (seqO Tryr9_9 (seqO Tryr9_10 Out.ret)) fr h
theorem bad_0_true (x : V) : isT (outR Try.prog [.tmp 4] (badRest 0 (badFr (badAt x true)) (badHp (badAt x true)))) = true := by kernel_rfl
theorem bad_0_false (x : V) : isT (outR Try.prog [.tmp 4] (badRest 0 (badFr (badAt x false)) (badHp (badAt x false)))) = true := by kernel_rfl
theorem bad_1_true (x : V) : isT (outR Try.prog [.tmp 4] (badRest 1 (badFr (badAt x true)) (badHp (badAt x true)))) = true := by kernel_rfl
theorem bad_1_false (x : V) : isT (outR Try.prog [.tmp 4] (badRest 1 (badFr (badAt x false)) (badHp (badAt x false)))) = true := by kernel_rfl
theorem bad_2_true (x : V) : isT (outR Try.prog [.tmp 4] (badRest 2 (badFr (badAt x true)) (badHp (badAt x true)))) = true := by kernel_rfl
theorem bad_2_false (x : V) : isT (outR Try.prog [.tmp 4] (badRest 2 (badFr (badAt x false)) (badHp (badAt x false)))) = true := by kernel_rfl
theorem bad_3_true (x : V) : isT (outR Try.prog [.tmp 4] (badRest 3 (badFr (badAt x true)) (badHp (badAt x true)))) = true := by kernel_rfl
theorem bad_3_false (x : V) : isT (outR Try.prog [.tmp 4] (badRest 3 (badFr (badAt x false)) (badHp (badAt x false)))) = true := by kernel_rfl
theorem bad_4_true (x : V) : isT (outR Try.prog [.tmp 4] (badRest 4 (badFr (badAt x true)) (badHp (badAt x true)))) = true := by kernel_rfl
theorem bad_4_false (x : V) : isT (outR Try.prog [.tmp 4] (badRest 4 (badFr (badAt x false)) (badHp (badAt x false)))) = true := by kernel_rfl
theorem bad_5_true (x : V) : isT (outR Try.prog [.tmp 4] (badRest 5 (badFr (badAt x true)) (badHp (badAt x true)))) = true := by kernel_rfl
theorem bad_5_false (x : V) : isT (outR Try.prog [.tmp 4] (badRest 5 (badFr (badAt x false)) (badHp (badAt x false)))) = true := by kernel_rfl
theorem bad_6_true (x : V) : isT (outR Try.prog [.tmp 4] (badRest 6 (badFr (badAt x true)) (badHp (badAt x true)))) = true := by kernel_rfl
theorem bad_6_false (x : V) : isT (outR Try.prog [.tmp 4] (badRest 6 (badFr (badAt x false)) (badHp (badAt x false)))) = true := by kernel_rfl
theorem bad_7_true (x : V) : isT (outR Try.prog [.tmp 4] (badRest 7 (badFr (badAt x true)) (badHp (badAt x true)))) = true := by kernel_rfl
theorem bad_7_false (x : V) : isT (outR Try.prog [.tmp 4] (badRest 7 (badFr (badAt x false)) (badHp (badAt x false)))) = true := by kernel_rfl
theorem bad_8_true (x : V) : isT (outR Try.prog [.tmp 4] (badRest 8 (badFr (badAt x true)) (badHp (badAt x true)))) = true := by kernel_rfl
theorem bad_8_false (x : V) : isT (outR Try.prog [.tmp 4] (badRest 8 (badFr (badAt x false)) (badHp (badAt x false)))) = true := by kernel_rfl
theorem bad_9_true (x : V) : isT (outR Try.prog [.tmp 4] (badRest 9 (badFr (badAt x true)) (badHp (badAt x true)))) = true := by kernel_rfl
theorem bad_9_false (x : V) : isT (outR Try.prog [.tmp 4] (badRest 9 (badFr (badAt x false)) (badHp (badAt x false)))) = true := by kernel_rfl
theorem bad_10_true (x : V) : isT (outR Try.prog [.tmp 4] (badRest 10 (badFr (badAt x true)) (badHp (badAt x true)))) = true := by kernel_rfl
theorem bad_10_false (x : V) : isT (outR Try.prog [.tmp 4] (badRest 10 (badFr (badAt x false)) (badHp (badAt x false)))) = true := by kernel_rfl
theorem bad_11_true (x : V) : isT (outR Try.prog [.tmp 4] (badRest 11 (badFr (badAt x true)) (badHp (badAt x true)))) = true := by kernel_rfl
theorem bad_11_false (x : V) : isT (outR Try.prog [.tmp 4] (badRest 11 (badFr (badAt x false)) (badHp (badAt x false)))) = true := by kernel_rfl
theorem bad_12_true (x : V) : isT (outR Try.prog [.tmp 4] (badRest 12 (badFr (badAt x true)) (badHp (badAt x true)))) = true := by kernel_rfl
theorem bad_12_false (x : V) : isT (outR Try.prog [.tmp 4] (badRest 12 (badFr (badAt x false)) (badHp (badAt x false)))) = true := by kernel_rfl
theorem bad_13_true (x : V) : isT (outR Try.prog [.tmp 4] (badRest 13 (badFr (badAt x true)) (badHp (badAt x true)))) = true := by kernel_rfl
theorem bad_13_false (x : V) : isT (outR Try.prog [.tmp 4] (badRest 13 (badFr (badAt x false)) (badHp (badAt x false)))) = true := by kernel_rfl
theorem bad_14_true (x : V) : isT (outR Try.prog [.tmp 4] (badRest 14 (badFr (badAt x true)) (badHp (badAt x true)))) = true := by kernel_rfl
theorem bad_14_false (x : V) : isT (outR Try.prog [.tmp 4] (badRest 14 (badFr (badAt x false)) (badHp (badAt x false)))) = true := by kernel_rfl
theorem bad_15_true (x : V) : isT (outR Try.prog [.tmp 4] (badRest 15 (badFr (badAt x true)) (badHp (badAt x true)))) = true := by kernel_rfl
theorem bad_15_false (x : V) : isT (outR Try.prog [.tmp 4] (badRest 15 (badFr (badAt x false)) (badHp (badAt x false)))) = true := by kernel_rfl
theorem bad_16_true (x : V) : isT (outR Try.prog [.tmp 4] (badRest 16 (badFr (badAt x true)) (badHp (badAt x true)))) = true := by kernel_rfl
theorem bad_16_false (x : V) : isT (outR Try.prog [.tmp 4] (badRest 16 (badFr (badAt x false)) (badHp (badAt x false)))) = true := by kernel_rfl
theorem bad_17_true (x : V) : isT (outR Try.prog [.tmp 4] (badRest 17 (badFr (badAt x true)) (badHp (badAt x true)))) = true := by kernel_rfl
theorem bad_17_false (x : V) : isT (outR Try.prog [.tmp 4] (badRest 17 (badFr (badAt x false)) (badHp (badAt x false)))) = true := by kernel_rfl
theorem bad_18_true (x : V) : isT (outR Try.prog [.tmp 4] (badRest 18 (badFr (badAt x true)) (badHp (badAt x true)))) = true := by kernel_rfl
theorem bad_18_false (x : V) : isT (outR Try.prog [.tmp 4] (badRest 18 (badFr (badAt x false)) (badHp (badAt x false)))) = true := by kernel_rfl
theorem bad_all (x : V) (b : Bool) : ∀ k : Nat, k < 19 → isT (outR Try.prog [.tmp 4] (badRest (k : Int) (badFr (badAt x b)) (badHp (badAt x b)))) = true
  | 0, _ => by
    cases b
    · exact bad_0_false x
    · exact bad_0_true x
  | 1, _ => by
    cases b
    · exact bad_1_false x
    · exact bad_1_true x
  | 2, _ => by
    cases b
    · exact bad_2_false x
    · exact bad_2_true x
  | 3, _ => by
    cases b
    · exact bad_3_false x
    · exact bad_3_true x
  | 4, _ => by
    cases b
    · exact bad_4_false x
    · exact bad_4_true x
  | 5, _ => by
    cases b
    · exact bad_5_false x
    · exact bad_5_true x
  | 6, _ => by
    cases b
    · exact bad_6_false x
    · exact bad_6_true x
  | 7, _ => by
    cases b
    · exact bad_7_false x
    · exact bad_7_true x
  | 8, _ => by
    cases b
    · exact bad_8_false x
    · exact bad_8_true x
  | 9, _ => by
    cases b
    · exact bad_9_false x
    · exact bad_9_true x
  | 10, _ => by
    cases b
    · exact bad_10_false x
    · exact bad_10_true x
  | 11, _ => by
    cases b
    · exact bad_11_false x
    · exact bad_11_true x
  | 12, _ => by
    cases b
    · exact bad_12_false x
    · exact bad_12_true x
  | 13, _ => by
    cases b
    · exact bad_13_false x
    · exact bad_13_true x
  | 14, _ => by
    cases b
    · exact bad_14_false x
    · exact bad_14_true x
  | 15, _ => by
    cases b
    · exact bad_15_false x
    · exact bad_15_true x
  | 16, _ => by
    cases b
    · exact bad_16_false x
    · exact bad_16_true x
  | 17, _ => by
    cases b
    · exact bad_17_false x
    · exact bad_17_true x
  | 18, _ => by
    cases b
    · exact bad_18_false x
    · exact bad_18_true x
  | k + 19, h => absurd h (by omega)
end Go.Proofs.Ytgnfkfmhjgbhhaa

noncomputable section
namespace Go.Proofs.Ytgnfkfmhjgbhhaa
open Go Go.Proofs Go.Vm
set_option linter.unusedVariables false
set_option maxRecDepth 100000
theorem tmod_nat' (n m : Nat) : (n : Int).tmod (m : Int) = ((n % m : Nat) : Int) := by rw [Int.tmod_eq_emod_of_nonneg (by omega)]; simp
theorem bad_ok {n : Nat} (hn : n < 256) (b : Bool) : ∃ h', TryF9 [.int .u8 (n : Int), .bool b] h00 = .ok (.bool true) h' := by
  have hk : (n : Int).tmod 19 = ((n % 19 : Nat) : Int) := tmod_nat' n 19
  have hK : n % 19 < 19 := Nat.mod_lt _ (by omega)
  have h1 : Tryd9 = badPre (seqO Tryr9_8 (seqO Tryr9_9 (seqO Tryr9_10 Out.ret))) := (rfl)
  have h2 : seqO Tryr9_8 (seqO Tryr9_9 (seqO Tryr9_10 Out.ret)) (badFr (badAt (.int .u8 (n : Int)) b)) (badHp (badAt (.int .u8 (n : Int)) b)) = badRest ((n % 19 : Nat) : Int) (badFr (badAt (.int .u8 (n : Int)) b)) (badHp (badAt (.int .u8 (n : Int)) b)) := by
    unfold badRest
    simp (disch := omega) only [seqO_eq, Tryr9_8, gtO_some, bndO_ok, bad_f0, bad_f6, oConvInt_i64, bad_len, oBin_rem, hk]
  have e := bad_all (.int .u8 (n : Int)) b _ hK
  rw [← h2, ← badPre_eq (seqO Tryr9_8 (seqO Tryr9_9 (seqO Tryr9_10 Out.ret))) (.int .u8 (n : Int)) b, ← h1, ← TryF9_eq] at e
  exact isT_ok e
theorem nil_ok (v : V) (h : Hp) : TryF8 [v] h = .ok (.bool true) h := by kernel_rfl
end Go.Proofs.Ytgnfkfmhjgbhhaa
