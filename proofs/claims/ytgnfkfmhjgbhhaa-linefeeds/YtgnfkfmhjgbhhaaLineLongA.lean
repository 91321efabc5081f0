/- Part of the value machine, or of a walk by it: lemmas that the claim's last text uses. No conditions. -/
import Derived.Test.YtgnfkfmhjgbhhaaLineC
import Derived.Test.YtgnfkfmhjgbhhaaChecked
import Derived.KernelRfl
set_option linter.unusedVariables false
set_option linter.unusedSimpArgs false
set_option linter.unnecessarySimpa false
namespace Go.Ln
open Go Go.Vm
set_option linter.unusedVariables false
/-- the line of LineLong -/
def longS (m : Nat) : List Nat := 120 :: 32 :: List.replicate m 120
variable {m : Nat}
theorem longS_len : (longS m).length = m + 2 := by unfold longS; simp
theorem longS_mem : ∀ c ∈ longS m, c = 120 ∨ c = 32 := by
  intro c h
  unfold longS at h
  rcases List.mem_cons.1 h with h | h
  · exact .inl h
  · rcases List.mem_cons.1 h with h | h
    · exact .inr h
    · exact .inl (List.eq_of_mem_replicate h)
theorem long_a (h5 : m = 4093) (cr : Bool) : ∃ ws, feedsM 10 {} ((longS m) ++ [121] ++ eol cr) = ({}, [⟨1, ws⟩]) := by
  have hm : ∀ c ∈ (longS m) ++ [121], c = 120 ∨ c = 32 ∨ c = 121 := fun c h => by
    rcases List.mem_append.1 h with h | h
    · rcases longS_mem c h with h | h
      · exact .inl h
      · exact .inr (.inl h)
    · exact .inr (.inr (List.mem_singleton.1 h))
  obtain ⟨x, e1, e2⟩ := feeds_text 10 {} ((longS m) ++ [121]) cr rfl rfl rfl (fun c h => by have := hm c h; omega) (fun c h => by have := hm c h; omega) (by simp only [List.length_append, longS_len, List.length_cons, List.length_nil]; omega)
  rw [e2]
  have hp : Parses 8 ⟨(longS m) ++ [121], []⟩ (.cons 1 [120] .nil (.cons 1 (List.replicate m 120 ++ [121]) .nil .nil)) ⟨[], []⟩ := by
    have h1 : wordM 8 ⟨[120] ++ (32 :: (List.replicate m 120 ++ [121])), []⟩ = some (⟨1, [120], .nil⟩, ⟨32 :: (List.replicate m 120 ++ [121]), []⟩) :=
      wordM_atom (by simp) (by decide) (fun d l e => by cases e; rfl)
    have h2 : wordM 8 ⟨(List.replicate m 120 ++ [121]) ++ [], []⟩ = some (⟨1, List.replicate m 120 ++ [121], .nil⟩, ⟨[], []⟩) :=
      wordM_atom (by simp) (fun c h => by
        rcases List.mem_append.1 h with h | h
        · rw [List.eq_of_mem_replicate h]; rfl
        · rw [List.mem_singleton.1 h]; rfl) (fun d l e => by cases e)
    rw [List.append_nil] at h2
    exact Parses.cons (st2 := ⟨List.replicate m 120 ++ [121], []⟩) h1 (by rfl) (Parses.one h2 rfl)
  have hpar : parseM ([] ++ [cutCR x]) [] = some (.cons 1 [120] .nil (.cons 1 (List.replicate m 120 ++ [121]) .nil .nil)) := by
    rw [e1]
    exact parseM_of rfl hp
  refine ⟨_, endM_words (r := { now := x }) ?_ hpar⟩
  show markerM (cutCR x) = none
  rw [e1]
  exact markerM_no (by show ¬ (([] : List Nat) ++ ((longS m) ++ [121])).getLast? = some 125; rw [List.nil_append, List.getLast?_append]; simp)
theorem long_b (h5 : m = 4093) : feedsM 10 {} ((longS m) ++ [121, 122]) = ({ line := true }, [⟨3, .nil⟩]) := by
  rw [show (longS m) ++ [121, 122] = ((longS m) ++ [121]) ++ [122] by simp, feedsM_append]
  have hm : ∀ c ∈ (longS m) ++ [121], c ≠ 10 := fun c h => by
    rcases List.mem_append.1 h with h | h
    · have := longS_mem c h; omega
    · rw [List.mem_singleton.1 h]; decide
  rw [feeds_now 10 ((longS m) ++ [121]) {} rfl rfl rfl hm (by simp only [List.length_append, longS_len, List.length_cons, List.length_nil]; omega)]
  simp only []
  rw [feed_over 10 { now := [] ++ ((longS m) ++ [121]) } 122 rfl rfl rfl (by decide) (by decide) (by show 0 + (([] ++ ((longS m) ++ [121])).length + 1) > 4096; simp only [List.nil_append, List.length_append, longS_len, List.length_cons, List.length_nil]; omega)]
  rfl
theorem long_c (m n : Nat) (cr : Bool) : feedsM 10 { line := true } ((longS m).take n ++ eol cr) = ({}, []) := by
  have hm : ∀ c ∈ (longS m).take n, c ≠ 10 := fun c h => by have := longS_mem c (List.mem_of_mem_take h); omega
  cases cr with
  | false =>
    rw [show eol false = [10] from rfl, feedsM_append, feeds_line 10 _ { line := true } rfl rfl rfl hm]
    simp only []
    rw [feed_line_nl 10 { line := true } rfl rfl rfl]
    rfl
  | true =>
    rw [show eol true = [13] ++ [10] from rfl, ← List.append_assoc, feedsM_append, feeds_line 10 _ { line := true } rfl rfl rfl (fun c h => by
      rcases List.mem_append.1 h with h | h
      · exact hm c h
      · rw [List.mem_singleton.1 h]; decide)]
    simp only []
    rw [feed_line_nl 10 { line := true } rfl rfl rfl]
    rfl
theorem long_d (cr : Bool) : ∃ ws, feedsM 10 {} ([97, 32, 98] ++ eol cr) = ({}, [⟨1, ws⟩]) := by
  cases cr
  · exact ⟨_, rfl⟩
  · exact ⟨_, rfl⟩
end Go.Ln

noncomputable section
namespace Go.Proofs.Ytgnfkfmhjgbhhaa
open Go Go.Proofs Go.Vm
set_option linter.unusedVariables false
set_option maxRecDepth 100000
/-! 6: pillarbox/pillarboxlaw22.LineLong -/
def Tryk6 : Nat → Bool := fun t => memN t [0, 1, 4, 5, 6, 7, 8, 9, 10, 11, 12, 17, 25, 28]
def Tryr6_0 (fr : F) (h : Hp) : Out :=
  Out.nor (T.set (some (.bool false)) (Pos.of 4) fr) h
def Tryr6_1 (fr : F) (h : Hp) : Out :=
  bndO (oMakeSlice 1 [(.int .u8 0)] (.int .i64 4095) (.int .i64 4095) h) fun v13 h0 =>
  Out.nor (T.set (some v13) (Pos.of 5) fr) h0
def Tryr6_2 (fr : F) (h : Hp) : Out :=
  Out.nor (T.set (some (.int .i64 0)) (Pos.of 6) fr) h
def Tryr6_3 (fr : F) (h : Hp) : Out :=
  gtO (T.get fr (Pos.of 6)) fun v6 => gtO (T.get fr (Pos.of 5)) fun v5 => bndO (oLenK 2 v5 h) fun v16 h2 =>
  bndO (oBin .lss .none v6 v16 h2) fun v17 h3 =>
  Out.nor (T.set (some v17) (Pos.of 17) fr) h3
def Tryr6_5 (fr : F) (h : Hp) : Out :=
  gtO (T.get fr (Pos.of 5)) fun v5 => gtO (T.get fr (Pos.of 6)) fun v6 => bndO (oIdxS 1 v5 v6 h) fun v22 h2 =>
  bndO (oStore 1 v22 (.int .u8 120) h2) fun _u3 h3 =>
  Out.nor fr h3
def Tryr6_4 (fr : F) (h : Hp) : Out :=
  gtO (T.get fr (Pos.of 6)) fun v6 => bndO (oBin .add .none v6 (.int .i64 1) h) fun v19 h1 =>
  Out.nor (T.set (some v19) (Pos.of 6) fr) h1
def Tryr6_6 (fr : F) (h : Hp) : Out :=
  gtO (T.get fr (Pos.of 5)) fun v5 => bndO (oIdxS 1 v5 (.int .i64 1) h) fun v24 h1 =>
  bndO (oStore 1 v24 (.int .u8 32) h1) fun _u2 h2 =>
  Out.nor fr h2
def Tryr6_7 (fr : F) (h : Hp) : Out :=
  Out.nor (T.set (some (.str [10])) (Pos.of 7) fr) h
def Tryr6_8 (fr : F) (h : Hp) : Out :=
  gtO (T.get fr (Pos.of 1)) fun v1 => Out.nor (T.set (some v1) (Pos.of 25) fr) h
def Tryr6_9 (fr : F) (h : Hp) : Out :=
  Out.nor (T.set (some (.str [13, 10])) (Pos.of 7) fr) h
def Tryr6_10 (fr : F) (h : Hp) : Out :=
  bndO (TryF13 [(.int .i64 10)] h) fun v26 h0 =>
  Out.nor (T.set (some v26) (Pos.of 8) fr) h0
def Tryr6_11 (fr : F) (h : Hp) : Out :=
  gtO (T.get fr (Pos.of 8)) fun v8 => bndO (oBin .eql (.ptr 11) v8 .nilp h) fun v28 h1 =>
  Out.nor (T.set (some v28) (Pos.of 28) fr) h1
def Tryr6_12 (fr : F) (h : Hp) : Out :=
  Out.nor (T.set (some (.bool false)) (Pos.of 4) fr) h
def Tryr6_13 (fr : F) (h : Hp) : Out :=
  gtO (T.get fr (Pos.of 8)) fun v8 => gtO (T.get fr (Pos.of 5)) fun v5 => bndO (oBytesStr v5 h) fun v31 h2 =>
  bndO (oBin .add .none v31 (.str [121]) h2) fun v32 h3 =>
  gtO (T.get fr (Pos.of 7)) fun v7 => bndO (oBin .add .none v32 v7 h3) fun v34 h5 =>
  bndO (oStrBytes v34 h5) fun v35 h6 =>
  bndO (TryF16 [v8, v35] h6) fun v36 h7 =>
  Out.nor (T.set (some v36) (Pos.of 9) fr) h7
def Tryr6_14 (fr : F) (h : Hp) : Out :=
  gtO (T.get fr (Pos.of 8)) fun v8 => gtO (T.get fr (Pos.of 5)) fun v5 => bndO (oBytesStr v5 h) fun v39 h2 =>
  bndO (oBin .add .none v39 (.str [121, 122]) h2) fun v40 h3 =>
  bndO (oStrBytes v40 h3) fun v41 h4 =>
  bndO (TryF16 [v8, v41] h4) fun v42 h5 =>
  Out.nor (T.set (some v42) (Pos.of 10) fr) h5
def Tryr6_15 (fr : F) (h : Hp) : Out :=
  gtO (T.get fr (Pos.of 8)) fun v8 => gtO (T.get fr (Pos.of 5)) fun v5 => gtO (T.get fr (Pos.of 0)) fun v0 => bndO (oConvInt .i64 v0 h) fun v46 h3 =>
  bndO (oSlice 1 v5 none (some v46) none h3) fun v47 h4 =>
  bndO (oBytesStr v47 h4) fun v48 h5 =>
  gtO (T.get fr (Pos.of 7)) fun v7 => bndO (oBin .add .none v48 v7 h5) fun v50 h7 =>
  bndO (oStrBytes v50 h7) fun v51 h8 =>
  bndO (TryF16 [v8, v51] h8) fun v52 h9 =>
  Out.nor (T.set (some v52) (Pos.of 11) fr) h9
def Tryr6_16 (fr : F) (h : Hp) : Out :=
  gtO (T.get fr (Pos.of 8)) fun v8 => gtO (T.get fr (Pos.of 7)) fun v7 => bndO (oBin .add .none (.str [97, 32, 98]) v7 h) fun v55 h2 =>
  bndO (oStrBytes v55 h2) fun v56 h3 =>
  bndO (TryF16 [v8, v56] h3) fun v57 h4 =>
  Out.nor (T.set (some v57) (Pos.of 12) fr) h4
def Tryr6_17 (fr : F) (h : Hp) : Out :=
  gtO (T.get fr (Pos.of 9)) fun v9 => bndO (oLenK 2 v9 h) fun v59 h1 =>
  bndO (oBin .eql .none v59 (.int .i64 1) h1) fun v60 h2 =>
  ifB v60 (bndO (oIdxS 2 v9 (.int .i64 0) h2) fun v63 h5 =>
  bndO (oFieldAddr 0 v63 h5) fun v64 h6 =>
  bndO (oLoad1 v64 h6) fun v65 h7 =>
  bndO (oBin .eql .none v65 (.int .i64 1) h7) fun v66 h8 =>
  ifB v66 (gtO (T.get fr (Pos.of 10)) fun v10 => bndO (oLenK 2 v10 h8) fun v70 h12 =>
  bndO (oBin .eql .none v70 (.int .i64 1) h12) fun v71 h13 =>
  ifB v71 (bndO (oIdxS 2 v10 (.int .i64 0) h13) fun v75 h17 =>
  bndO (oFieldAddr 0 v75 h17) fun v76 h18 =>
  bndO (oLoad1 v76 h18) fun v77 h19 =>
  bndO (oBin .eql .none v77 (.int .i64 3) h19) fun v78 h20 =>
  ifB v78 (gtO (T.get fr (Pos.of 11)) fun v11 => bndO (oLenK 2 v11 h20) fun v82 h24 =>
  bndO (oBin .eql .none v82 (.int .i64 0) h24) fun v83 h25 =>
  ifB v83 (gtO (T.get fr (Pos.of 12)) fun v12 => bndO (oLenK 2 v12 h25) fun v87 h29 =>
  bndO (oBin .eql .none v87 (.int .i64 1) h29) fun v88 h30 =>
  ifB v88 (bndO (oIdxS 2 v12 (.int .i64 0) h30) fun v92 h34 =>
  bndO (oFieldAddr 0 v92 h34) fun v93 h35 =>
  bndO (oLoad1 v93 h35) fun v94 h36 =>
  bndO (oBin .eql .none v94 (.int .i64 1) h36) fun v95 h37 =>
  ifB v95 (bndO (TryF12c [] h37) fun v98 h40 =>
  Out.nor (T.set (some v98) (Pos.of 4) fr) h40) (Out.nor (T.set (some (.bool false)) (Pos.of 4) fr) h37)) (Out.nor (T.set (some (.bool false)) (Pos.of 4) fr) h30)) (Out.nor (T.set (some (.bool false)) (Pos.of 4) fr) h25)) (Out.nor (T.set (some (.bool false)) (Pos.of 4) fr) h20)) (Out.nor (T.set (some (.bool false)) (Pos.of 4) fr) h13)) (Out.nor (T.set (some (.bool false)) (Pos.of 4) fr) h8)) (Out.nor (T.set (some (.bool false)) (Pos.of 4) fr) h2)
def Tryb6_3 : F → Hp → Out := (seqO (seqO Tryr6_3 (cndX (.tmp 17) Out.nor (Out.ex 0))) (seqO (blkO 1 Tryr6_5) Tryr6_4))
def Tryd6 : F → Hp → Out := (seqO Tryr6_0 (seqO Tryr6_1 (seqO (seqO Tryr6_2 (blkO 0 (loopO Tryb6_3 lf))) (seqO Tryr6_6 (seqO Tryr6_7 (seqO (seqO Tryr6_8 (cndX (.tmp 25) Tryr6_9 Out.nor)) (seqO Tryr6_10 (seqO (seqO Tryr6_11 (cndX (.tmp 28) (seqO Tryr6_12 Out.ret) Out.nor)) (seqO Tryr6_13 (seqO Tryr6_14 (seqO Tryr6_15 (seqO Tryr6_16 (seqO Tryr6_17 Out.ret)))))))))))))
def Trye6 : FuncId → Option Fun := fun f => match Nat.beq f 13 with | true => some TryF13 | false => match Nat.beq f 16 with | true => some TryF16 | false => match Nat.beq f 12 with | true => some TryF12c | false => none
def Tryp6 : Plans := fun id => none
def TryF6 : Fun := funX Try.prog 0 Tryk6 Trye6 Tryp6 lf Try.f6
theorem TryD6 : denX Try.prog 0 Try.f6.ntmps Tryk6 Trye6 Tryp6 lf (codeOf Try.f6) = Tryd6 := by kernel_rfl
theorem TryF6_eq (x0 x1 : V) (h : Hp) : TryF6 [x0, x1] h = outR Try.prog [.tmp 4] (Tryd6 (T.set (some x1) (Pos.of 1) (T.set (some x0) (Pos.of 0) T.nil)) h) := funX_eq (by kernel_rfl) TryD6 (by kernel_rfl) h
theorem Tryc6 : CallOk Try.prog 0 6 TryF6 := funX_ok Trymix (callsOk_cons Tryc13 (callsOk_cons Tryc16 (callsOk_cons Tryc12c callsOk_0))) Try.func6 (by kernel_rfl)

end Go.Proofs.Ytgnfkfmhjgbhhaa

noncomputable section
namespace Go.Vm
variable {h : Hp}
theorem times_one (n : Nat) (z : V) : times n [z] = List.replicate n z := by
  induction n with
  | zero => rfl
  | succ n ih => show [z] ++ times n [z] = _; rw [ih]; rfl
theorem oMakeSlice_1 {n : Nat} {z : V} (hn : n ≤ 1000000) : oMakeSlice 1 [z] (.int .i64 (n : Int)) (.int .i64 (n : Int)) h = .ok (.slice h.next 0 n (.kn n)) (h.new (.cells true (List.replicate n z))) := by
  show (match Nat.ble n n, Nat.ble (Nat.mul n 1) 140737488355328 with
    | true, true => R.ok (V.slice h.next 0 n (.kn n)) (h.new (.cells true (times n [z])))
    | _, _ => .bad) = _
  rw [Nat.ble_eq_true_of_le (Nat.le_refl n), Nat.ble_eq_true_of_le (show Nat.mul n 1 ≤ _ by show n * 1 ≤ _; omega), times_one]
theorem nilcmp (i : Pos) (q n : Nat) (h : Hp) : oBin .eql (.ptr n) (.ptr i q) .nilp h = .ok (.bool false) h := (rfl)
end Go.Vm
namespace Go.Proofs.Ytgnfkfmhjgbhhaa
open Go Go.Proofs Go.Vm Go.Ln
set_option linter.unusedVariables false
set_option maxRecDepth 100000
set_option linter.unusedSimpArgs false
/-- a row that is held as a whole, at a place -/
theorem Sl.row {h : Hp} {i : Pos} {n : Nat} {cs : List V} {wr : Bool} {c : Cap} (hl : cs.length = n) (hi : i.nat < h.next.nat) (hg : h.get i = some (.cells wr cs)) : Sl (i.nat + 1) h 1 (.slice i 0 n c) n cs :=
  ⟨by rw [hl, Nat.mul_one], .inr ⟨i, 0, c, wr, cs, rfl, by omega, by rw [hg]; rfl, fun k _ => by rw [Nat.zero_add]⟩⟩
theorem Told.step {P S S' : Pos → Prop} {h h' : Hp} {v : V} {gs : List Ln.Got} (t : Told P h v gs) (p : Stp S h S' h') (hP : ∀ j, P j → ¬ S j) : Told (fun j => ¬ S' j) h' v gs :=
  t.ch p.ch fun j hj q => ⟨fun q' => (p.sub j q').elim (hP j q) fun q2 => by omega, hP j q⟩
theorem awake_eq (h : Hp) : TryF12c [] h = .ok (.bool true) h := (rfl)
theorem long_ok {n : Nat} (hn : n < 256) (cr : Bool) (h : Hp) : ∃ h', TryF6 [.int .u8 (n : Int), .bool cr] h = .ok (.bool true) h' := by
  suffices hs : Tells Try.prog [.tmp 4] (fun v _ => v = .bool true) (Tryd6 (T.set (some (.bool cr)) (Pos.of 1) (T.set (some (.int .u8 (n : Int))) (Pos.of 0) T.nil)) h) by
    rw [TryF6_eq]
    obtain ⟨r, h', e, rfl⟩ := hs
    exact ⟨h', e⟩
  obtain ⟨m, hm⟩ : ∃ m, m = 4093 := ⟨_, rfl⟩
  have mk : oMakeSlice 1 [.int .u8 0] (.int .i64 4095) (.int .i64 4095) h = .ok (.slice h.next 0 (m + 2) (.kn (m + 2))) (h.new (.cells true (List.replicate (m + 2) (.int .u8 0)))) := by
    subst hm; exact oMakeSlice_1 (n := 4095) (by omega)
  have len0 : ∀ h', oLenK 2 (.slice h.next 0 (m + 2) (.kn (m + 2))) h' = .ok (.int .i64 ((m + 2 : Nat) : Int)) h' := fun h' => (rfl)
  have ix : ∀ (k : Nat) h', k < m + 2 → oIdxS 1 (.slice h.next 0 (m + 2) (.kn (m + 2))) (.int .i64 (k : Int)) h' = .ok (.ptr h.next k) h' := fun k h' hk => by
    rw [oIdxS_slice hk, Nat.zero_add, Nat.mul_one]
  simp (disch := omega) only [seqO_eq, thenO_nor, bndO_ok, blkO_eq, Tryd6, Tryr6_0, Tryr6_1, mk, Tryr6_2]
  refine Oc.then (loop_rule (n := m + 2) (fun k fr g => ∃ q : Nat, fr.get (Pos.of 0) = some (.int .u8 (n : Int)) ∧ fr.get (Pos.of 1) = some (.bool cr) ∧ fr.get (Pos.of 5) = some (.slice h.next 0 (m + 2) (.kn (m + 2))) ∧ fr.get (Pos.of 6) = some (.int .i64 (q : Int)) ∧ q + k = m + 2 ∧
      h.next.nat < g.next.nat ∧ g.get h.next = some (.cells true (List.replicate q (.int .u8 120) ++ List.replicate k (.int .u8 0))))
    (A := fun fr g => fr.get (Pos.of 0) = some (.int .u8 (n : Int)) ∧ fr.get (Pos.of 1) = some (.bool cr) ∧ fr.get (Pos.of 5) = some (.slice h.next 0 (m + 2) (.kn (m + 2))) ∧
      h.next.nat < g.next.nat ∧ g.get h.next = some (.cells true (List.replicate (m + 2) (.int .u8 120)))) (B := fun _ _ => False) (by rw [lf_eq]; omega) ?_ ?_) ?_ ?_
  · refine ⟨0, by simp only [get_set_of, Nat.zero_ne_one, reduceCtorEq, ↓reduceIte], by simp only [get_set_of, Nat.reduceEqDiff, ↓reduceIte], by simp only [get_set_of, Nat.reduceEqDiff, ↓reduceIte], by simp only [get_set_of, ↓reduceIte]; rfl, by omega, by rw [new_next_nat]; omega, ?_⟩
    rw [new_self]; rfl
  · rintro k fr g ⟨q, f0, f1, f5, f6, hq, hlt, hg⟩
    cases k with
    | zero =>
      have hge : ¬ (q : Int) < ((m + 2 : Nat) : Int) := by omega
      simp (disch := omega) only [seqO_eq, thenO_nor, thenO_ex, gtO_some, bndO_ok, get_set_of, cndX_tmp, ifB_false, ↓reduceIte, oBin_lss, decide_false, Tryb6_3, Tryr6_3, f5, f6, len0, hge]
      refine ⟨rfl, by simp only [get_set_of, reduceCtorEq, ↓reduceIte, f0], by simp only [get_set_of, Nat.reduceEqDiff, ↓reduceIte, f1], by simp only [get_set_of, Nat.reduceEqDiff, ↓reduceIte, f5], hlt, ?_⟩
      rw [hg, show q = m + 2 by omega]; simp
    | succ k =>
      have hge : (q : Int) < ((m + 2 : Nat) : Int) := by omega
      have e1 := ix q g (by omega)
      have e2 := st_get (q := q) (y := .int .u8 120) hg ⟨rfl, rfl⟩ (by simp)
      have e3 : (List.replicate q (V.int .u8 120) ++ List.replicate (k + 1) (V.int .u8 0)).set q (.int .u8 120) = List.replicate (q + 1) (V.int .u8 120) ++ List.replicate k (V.int .u8 0) := by
        rw [List.set_append_right _ _ (by simp)]
        simp only [List.length_replicate, Nat.sub_self, List.replicate_succ, List.set_cons_zero]
        rw [← List.singleton_append, ← List.append_assoc, ← List.replicate_succ', List.replicate_succ]
      rw [e3] at e2
      simp (disch := omega) only [seqO_eq, thenO_nor, gtO_some, bndO_ok, get_set_of, cndX_tmp, ifB_true, blkO_eq, blkX_nor, Nat.reduceEqDiff, ↓reduceIte, oBin_add, oBin_lss, decide_true, Tryb6_3, Tryr6_3, Tryr6_5, Tryr6_4, f5, f6, len0, hge, e1, e2]
      exact ⟨k, by omega, q + 1, by simp only [get_set_of, reduceCtorEq, ↓reduceIte, f0], by simp only [get_set_of, Nat.reduceEqDiff, ↓reduceIte, f1], by simp only [get_set_of, Nat.reduceEqDiff, ↓reduceIte, f5], by simp only [get_set_of, ↓reduceIte]; rfl, by omega, hlt, put_self _ _ _⟩
  · rintro fr g ⟨f0, f1, f5, hlt, hg⟩
    have e1 := ix 1 g (by omega)
    have e2 := st_get (q := 1) (y := .int .u8 32) hg ⟨rfl, rfl⟩ (by simp)
    have e3 : (List.replicate (m + 2) (V.int .u8 120)).set 1 (.int .u8 32) = bys (longS m) := by
      simp only [List.replicate_succ, List.set_cons_succ, List.set_cons_zero, longS, bys, List.map_cons, List.map_replicate]
      rfl
    rw [e3] at e2
    obtain ⟨g0, eg0⟩ : ∃ g0, g0 = g.put h.next (some (.cells true (bys (longS m)))) := ⟨_, rfl⟩
    rw [← eg0] at e2
    replace e1 : oIdxS 1 (.slice h.next 0 (m + 2) (.kn (m + 2))) (.int .i64 1) g = .ok (.ptr h.next 1) g := e1
    have hg0 : g0.get h.next = some (.cells true (bys (longS m))) := by rw [eg0]; exact put_self _ _ _
    have hlt0 : h.next.nat < g0.next.nat := by rw [eg0]; exact hlt
    have hll : (bys (longS m)).length = m + 2 := by rw [bys_length, longS_len]
    have h256 : ∀ x ∈ longS m, x < 256 := fun x hx => by have := longS_mem x hx; omega
    have rows : ∀ {g' : Hp}, Ch (fun j => j = g0.next ∨ h.next.nat < j.nat) g0 g' → oBytesStr (.slice h.next 0 (m + 2) (.kn (m + 2))) g' = .ok (.str (longS m)) g' ∧ (∀ k, k ≤ m + 2 → ∃ v, oSlice 1 (.slice h.next 0 (m + 2) (.kn (m + 2))) none (some (.int .i64 (k : Int))) none g' = .ok v g' ∧ oBytesStr v g' = .ok (.str ((longS m).take k)) g') := fun {g'} c => by
      have hg' : g'.get h.next = some (.cells true (bys (longS m))) := by
        rw [c.get _ hlt0 (fun q => by rcases q with q | q; · rw [q] at hlt0; omega
                                      · omega)]
        exact hg0
      have hlt' : h.next.nat < g'.next.nat := Nat.lt_of_lt_of_le hlt0 c.next
      have s := Sl.row (c := .kn (m + 2)) hll hlt' hg'
      refine ⟨oBytesStr_ok (n := m + 2) s h256 (fun _ _ => rfl), fun k hk => ?_⟩
      obtain ⟨v, u1, u2, -, -⟩ := Sl.upto s (fun i o n c e => by cases e; exact Nat.le_refl _) (by omega) hk
      rw [Nat.mul_one, ← bys_take] at u2
      refine ⟨v, u1 g', oBytesStr_ok u2 (fun x hx => h256 x (List.mem_of_mem_take hx)) (fun _ _ => rfl)⟩
    obtain ⟨t, ht⟩ : ∃ t, t = eol cr := ⟨_, rfl⟩
    have htl : t.length ≤ 2 ∧ ∀ x ∈ t, x < 256 := by subst ht; cases cr <;> (refine ⟨by decide, by decide⟩)
    -- the reader
    obtain ⟨g1, n1, a1, c1, -⟩ := new_ok 10 g0
    have hmax : max (10 : Int) 1 = 10 := rfl
    rw [hmax] at a1
    have k1 : RdOk 10 0 {} := RdOk.fresh (by decide) (by decide) (Nat.zero_le _)
    have l1 : (longS m ++ [121] ++ t).length ≤ 4098 := by simp only [List.length_append, longS_len, List.length_cons, List.length_nil]; omega
    have l2 : (longS m ++ [121, 122]).length ≤ 4098 := by simp only [List.length_append, longS_len, List.length_cons, List.length_nil]; omega
    have l3 : ((longS m).take n ++ t).length ≤ 4098 := by simp only [List.length_append, List.length_take, longS_len]; omega
    have l4 : ([97, 32, 98] ++ t).length ≤ 4098 := by simp only [List.length_append, List.length_cons, List.length_nil]; omega
    -- four lines
    obtain ⟨va, g2, vt2, vl2, vn2, vq2, ea, a2, p2, ta⟩ := feed_s (by decide) a1 k1 (s := longS m ++ [121] ++ t) (by omega) (fun x hx => by
      simp only [List.mem_append, List.mem_singleton] at hx
      rcases hx with (hx | hx) | hx
      · exact h256 x hx
      · omega
      · exact htl.2 x hx)
    obtain ⟨wsa, fa⟩ := long_a hm cr
    rw [← ht] at fa
    rw [fa] at a2 ta
    obtain ⟨vb, g3, vt3, vl3, vn3, vq3, eb, a3, p3, tb⟩ := feed_s (by decide) a2 k1 (s := longS m ++ [121, 122]) (by omega) (fun x hx => by
      simp only [List.mem_append, List.mem_cons, List.not_mem_nil, or_false] at hx
      rcases hx with hx | hx
      · exact h256 x hx
      · omega)
    rw [long_b hm] at a3 tb
    have k3 : RdOk 10 0 { line := true } := RdOk.fresh (by decide) (by decide) (Nat.zero_le _)
    obtain ⟨vc, g4, vt4, vl4, vn4, vq4, ec, a4, p4, tc⟩ := feed_s (by decide) a3 k3 (s := (longS m).take n ++ t) (by omega) (fun x hx => by
      simp only [List.mem_append] at hx
      rcases hx with hx | hx
      · exact h256 x (List.mem_of_mem_take hx)
      · exact htl.2 x hx)
    have fc := long_c m n cr
    rw [← ht] at fc
    rw [fc] at a4 tc
    obtain ⟨vd, g5, vt5, vl5, vn5, vq5, ed, a5, p5, td⟩ := feed_s (by decide) a4 k1 (s := [97, 32, 98] ++ t) (by omega) (fun x hx => by
      simp only [List.mem_append, List.mem_cons, List.not_mem_nil, or_false] at hx
      rcases hx with hx | hx
      · omega
      · exact htl.2 x hx)
    obtain ⟨wsd, fd⟩ := long_d cr
    rw [← ht] at fd
    rw [fd] at a5 td
    have p01 : Stp (fun j => j = g0.next) g0 (RdF g0.next .nils .nils .nils .nils) g1 := ⟨c1.mono fun j _ q => q.elim, fun j q => .inl (by
      rcases q with q | q | q | q | q
      · exact q
      · cases q
      · cases q
      · cases q
      · cases q)⟩
    have p02 := p01.trans p2
    have p03 := p02.trans p3
    obtain ⟨r1, -⟩ := rows (p01.ch.mono fun j _ q => .inl q)
    obtain ⟨r2, -⟩ := rows (p02.ch.mono fun j _ q => .inl q)
    obtain ⟨-, r3⟩ := rows (p03.ch.mono fun j _ q => .inl q)
    obtain ⟨vs, r3, r4⟩ := r3 n (by omega)
    have ta5 := ((ta.step p3 fun j q => q.2).step p4 fun j q => q).step p5 fun j q => q
    have tb5 := (tb.step p4 fun j q => q.2).step p5 fun j q => q
    have tc5 := tc.step p5 fun j q => q.2
    obtain ⟨ja, qa, wa, xa1, xa2, -, -⟩ := ta5.at (k := 0) (g := ⟨1, wsa⟩) rfl
    obtain ⟨jb, qb, wb, xb1, xb2, -, -⟩ := tb5.at (k := 0) (g := ⟨3, .nil⟩) rfl
    obtain ⟨jd, qd, wd, xd1, xd2, -, -⟩ := td.at (k := 0) (g := ⟨1, wsd⟩) rfl
    replace xa1 : ∀ h', oIdxS 2 va (.int .i64 0) h' = .ok (.ptr ja qa) h' := xa1
    replace xb1 : ∀ h', oIdxS 2 vb (.int .i64 0) h' = .ok (.ptr jb qb) h' := xb1
    replace xd1 : ∀ h', oIdxS 2 vd (.int .i64 0) h' = .ok (.ptr jd qd) h' := xd1
    have la : ∀ h', oLenK 2 va h' = .ok (.int .i64 1) h' := ta5.len
    have lb : ∀ h', oLenK 2 vb h' = .ok (.int .i64 1) h' := tb5.len
    have lc : ∀ h', oLenK 2 vc h' = .ok (.int .i64 0) h' := tc5.len
    have ld : ∀ h', oLenK 2 vd h' = .ok (.int .i64 1) h' := td.len
    have m1 : ∀ h, oBin .add .none (.str (longS m)) (.str [121]) h = .ok (.str (longS m ++ [121])) h := fun h => oBin_str_add (by rw [longS_len]; simp only [List.length_cons, List.length_nil]; omega)
    have m2 : ∀ h, oBin .add .none (.str (longS m ++ [121])) (.str t) h = .ok (.str (longS m ++ [121] ++ t)) h := fun h => oBin_str_add (by simp only [List.length_append] at l1 ⊢; omega)
    have m3 : ∀ h, oBin .add .none (.str (longS m)) (.str [121, 122]) h = .ok (.str (longS m ++ [121, 122])) h := fun h => oBin_str_add (by rw [longS_len]; simp only [List.length_cons, List.length_nil]; omega)
    have m4 : ∀ h, oBin .add .none (.str ((longS m).take n)) (.str t) h = .ok (.str ((longS m).take n ++ t)) h := fun h => oBin_str_add (by simp only [List.length_append] at l3 ⊢; omega)
    have m5 : ∀ h, oBin .add .none (.str [97, 32, 98]) (.str t) h = .ok (.str ([97, 32, 98] ++ t)) h := fun h => oBin_str_add (by simp only [List.length_append] at l4 ⊢; omega)
    have b1 := oStrBytes_ok (h := g1) (s := longS m ++ [121] ++ t) (by omega)
    have b2 := oStrBytes_ok (h := g2) (s := longS m ++ [121, 122]) (by omega)
    have b3 := oStrBytes_ok (h := g3) (s := (longS m).take n ++ t) (by omega)
    have b4 := oStrBytes_ok (h := g4) (s := [97, 32, 98] ++ t) (by omega)
    cases cr
    · obtain rfl : t = [10] := ht
      simp (disch := omega) only [seqO_eq, thenO_nor, gtO_some, bndO_ok, get_set_of, cndX_tmp, ifB_true, ifB_false, Nat.reduceEqDiff, reduceCtorEq, ↓reduceIte, oBin_eql, oFieldAddr_eq, oConvInt_i64, decide_true, Tryr6_6, Tryr6_7, Tryr6_8, Tryr6_9, Tryr6_10, Tryr6_11, Tryr6_13, Tryr6_14, Tryr6_15, Tryr6_16, Tryr6_17, f0, f1, f5, e1, e2, n1, nilcmp, r1, m1, m2, b1, ea, r2, m3, b2, eb, r3, r4, m4, b3, ec, m5, b4, ed, la, xa1, Nat.add_zero, xa2, lb, xb1, xb2, lc, ld, xd1, xd2, awake_eq]
      exact Tells.ret (by simp only [resK, get_set_of, ↓reduceIte, tupR] <;> rfl) rfl
    · obtain rfl : t = [13, 10] := ht
      simp (disch := omega) only [seqO_eq, thenO_nor, gtO_some, bndO_ok, get_set_of, cndX_tmp, ifB_true, ifB_false, Nat.reduceEqDiff, reduceCtorEq, ↓reduceIte, oBin_eql, oFieldAddr_eq, oConvInt_i64, decide_true, Tryr6_6, Tryr6_7, Tryr6_8, Tryr6_9, Tryr6_10, Tryr6_11, Tryr6_13, Tryr6_14, Tryr6_15, Tryr6_16, Tryr6_17, f0, f1, f5, e1, e2, n1, nilcmp, r1, m1, m2, b1, ea, r2, m3, b2, eb, r3, r4, m4, b3, ec, m5, b4, ed, la, xa1, Nat.add_zero, xa2, lb, xb1, xb2, lc, ld, xd1, xd2, awake_eq]
      exact Tells.ret (by simp only [resK, get_set_of, ↓reduceIte, tupR] <;> rfl) rfl
  · rintro fr g q
    exact q.elim
end Go.Proofs.Ytgnfkfmhjgbhhaa
