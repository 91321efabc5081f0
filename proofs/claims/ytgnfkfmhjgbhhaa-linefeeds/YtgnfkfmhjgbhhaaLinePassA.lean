/- Part of the value machine, or of a walk by it: lemmas that the claim's last text uses. No conditions. -/
import Derived.Test.YtgnfkfmhjgbhhaaLineC
import Derived.Test.YtgnfkfmhjgbhhaaChecked
import Derived.KernelRfl
import Derived.Test.YtgnfkfmhjgbhhaaLineLongA
set_option linter.unusedVariables false
set_option linter.unusedSimpArgs false
set_option linter.unnecessarySimpa false
namespace Go.Ln
open Go Go.Vm
set_option linter.unusedVariables false
theorem lastM_none : ∀ {c : Nat} {l : List Nat}, (∀ x ∈ l, x ≠ c) → lastM c l = none
  | c, [], _ => rfl
  | c, d :: l, h => by
    rw [lastM, lastM_none (fun x hx => h x (by simp [hx]))]
    simp only []
    rw [if_neg (h d (by simp))]
theorem lastM_at : ∀ {c : Nat} {p l : List Nat}, (∀ x ∈ l, x ≠ c) → lastM c (p ++ c :: l) = some p.length
  | c, [], l, h => by rw [List.nil_append, lastM, lastM_none h]; simp
  | c, d :: p, l, h => by rw [List.cons_append, lastM, lastM_at h]; simp
def signM (plus : Bool) : List Nat := if plus then [43] else []
theorem markerM_of {pre d : List Nat} {n : Nat} {plus : Bool} (hd : ∀ c ∈ d, 48 ≤ c ∧ c ≤ 57) (hn : numM d = some n) : markerM (pre ++ 123 :: (d ++ signM plus ++ [125])) = some (pre, n, plus) := by
  have e0 : pre ++ 123 :: (d ++ signM plus ++ [125]) = (pre ++ 123 :: (d ++ signM plus)) ++ [125] := by simp
  unfold markerM
  rw [e0, if_pos List.getLast?_concat, List.dropLast_concat]
  have hs : ∀ x ∈ d ++ signM plus, x ≠ 123 := fun x hx => by
    rcases List.mem_append.1 hx with h | h
    · have := hd x h; omega
    · cases plus with
      | true => rw [List.mem_singleton.1 h]; decide
      | false => cases h
  rw [lastM_at hs]
  simp only []
  have e1 : (pre ++ 123 :: (d ++ signM plus)).drop (pre.length + 1) = d ++ signM plus := by
    rw [← List.singleton_append, ← List.append_assoc, List.drop_left' (by simp)]
  have e2 : ((pre ++ 123 :: (d ++ signM plus)) ++ [125]).take pre.length = pre := by rw [List.append_assoc, List.take_left]
  rw [e1, e2]
  cases plus with
  | true =>
    rw [show signM true = [43] from rfl, if_pos (by simp), List.dropLast_concat, hn]
  | false =>
    rw [show signM false = [] from rfl, List.append_nil, if_neg, hn]
    intro e
    have := hd 43 (List.mem_of_getLast? e)
    omega
theorem numM_dig_all : ((List.range 1010).all fun n => decide (numM (digM n) = some n)) = true := by decide +kernel
theorem numM_dig {n : Nat} (h : n < 1010) : numM (digM n) = some n := of_decide_eq_true (List.all_eq_true.1 numM_dig_all n (List.mem_range.2 h))
theorem digM_digit (n : Nat) : ∀ c ∈ digM n, 48 ≤ c ∧ c ≤ 57 := digF_digit 5 n
theorem digM_len (n : Nat) : (digM n).length ≤ 5 := digF_len 5 n
/-- a text that ends with a literal's marker -/
def markT (pre : List Nat) (n : Nat) (plus : Bool) : List Nat := pre ++ 123 :: (digM n ++ signM plus ++ [125])
theorem markT_mem {pre : List Nat} {n : Nat} {plus : Bool} : ∀ c ∈ markT pre n plus, c ∈ pre ∨ (43 ≤ c ∧ c ≤ 125) := by
  intro c h
  unfold markT at h
  rcases List.mem_append.1 h with h | h
  · exact .inl h
  · right
    rcases List.mem_cons.1 h with h | h
    · omega
    · rcases List.mem_append.1 h with h | h
      · rcases List.mem_append.1 h with h | h
        · have := digM_digit n c h; omega
        · cases plus with
          | true => rw [List.mem_singleton.1 h]; decide
          | false => cases h
      · rw [List.mem_singleton.1 h]; decide
theorem markT_len {pre : List Nat} {n : Nat} {plus : Bool} : (markT pre n plus).length ≤ pre.length + 8 := by
  have := digM_len n
  have : (signM plus).length ≤ 1 := by cases plus <;> decide
  unfold markT
  simp only [List.length_append, List.length_cons, List.length_nil]
  omega
/-- the end of such a text -/
theorem feeds_mark (most : Int) (r : Rd) (pre : List Nat) (n : Nat) (plus cr : Bool) (hn : n < 1010) (h1 : r.skip = 0) (h2 : r.literal = false) (h3 : r.line = false) (h0 : r.now = []) (hp : ∀ c ∈ pre, c ≠ 10 ∧ c ≠ 13) (h5 : r.long + pre.length + 8 ≤ 4096) :
    ∃ x, cutCR x = markT pre n plus ∧ feedsM most r (markT pre n plus ++ eol cr) = endM most { r with now := x } ∧ markerM (cutCR x) = some (pre, n, plus) := by
  have hm : ∀ c ∈ markT pre n plus, c ≠ 10 ∧ c ≠ 13 := fun c h => by
    rcases markT_mem c h with h | h
    · exact hp c h
    · omega
  have hl := markT_len (pre := pre) (n := n) (plus := plus)
  obtain ⟨x, e1, e2⟩ := feeds_text most r (markT pre n plus) cr h1 h2 h3 (fun c h => (hm c h).1) (fun c h => by rw [h0, List.nil_append] at h; exact (hm c h).2) (by rw [h0, List.length_nil]; omega)
  rw [h0, List.nil_append] at e1
  refine ⟨x, e1, e2, ?_⟩
  rw [e1]
  exact markerM_of (digM_digit n) (numM_dig hn)
/-! LinePass -/
def passS (k : Nat) (pass : List Nat) : List Nat := markT [97, 32] k true ++ eol true ++ pass ++ ([32, 109, 111, 114, 101, 32, 40, 13, 10] ++ [120, 32, 121, 13, 10])
theorem xy : ∃ ws, feedsM 10 {} [120, 32, 121, 13, 10] = ({}, [⟨1, ws⟩]) ∧ ws.len = 2 := ⟨_, rfl, rfl⟩
theorem pass_c {k : Nat} {pass : List Nat} (hk : pass.length = k) (h1 : 11 ≤ k) (h2 : k < 1010) : ∃ ws, feedsM 10 {} (passS k pass) = ({}, [⟨3, .nil⟩, ⟨1, ws⟩]) := by
  obtain ⟨x, e1, e2, e3⟩ := feeds_mark 10 {} [97, 32] k true true h2 rfl rfl rfl rfl (by decide) (by decide)
  obtain ⟨ws, f1, -⟩ := xy
  refine ⟨ws, ?_⟩
  unfold passS
  rw [feedsM_append _ _ (markT [97, 32] k true ++ eol true ++ pass), feedsM_append _ _ (markT [97, 32] k true ++ eol true), e2, endM_great (r := { now := x }) e3 (by show (k : Int) > 10 - ((0 : Nat) : Int); omega)]
  simp only [if_true]
  rw [feeds_skip 10 pass { skip := k, line := true } (by show pass.length ≤ k; omega)]
  simp only []
  rw [feedsM_append, show k - pass.length = 0 by omega]
  have e4 : feedsM 10 { skip := 0, line := true } [32, 109, 111, 114, 101, 32, 40, 13, 10] = ({}, []) := rfl
  rw [e4]
  simp only []
  rw [f1]
  rfl
theorem pass_d {k : Nat} (h1 : 11 ≤ k) (h2 : k < 1010) : ∃ ws, feedsM 10 {} (markT [97, 32] k false ++ eol true ++ [120, 32, 121, 13, 10]) = ({}, [⟨3, .nil⟩, ⟨1, ws⟩]) ∧ ws.len = 2 := by
  obtain ⟨x, e1, e2, e3⟩ := feeds_mark 10 {} [97, 32] k false true h2 rfl rfl rfl rfl (by decide) (by decide)
  obtain ⟨ws, f1, f2⟩ := xy
  refine ⟨ws, ?_, f2⟩
  rw [feedsM_append, e2, endM_great (r := { now := x }) e3 (by show (k : Int) > 10 - ((0 : Nat) : Int); omega)]
  simp only [Bool.false_eq_true, if_false]
  rw [f1]
  rfl
/-! LineLiterals -/
def litS (b : List Nat) (plus cr : Bool) : List Nat := markT [97, 32, 88, 32, 40] b.length plus ++ eol cr ++ b ++ ([32, 98, 41, 32, 99] ++ eol cr)
def litW (b : List Nat) : Wds := .cons 1 [97] .nil (.cons 1 [88] .nil (.cons 3 [] (.cons 2 b .nil (.cons 1 [98] .nil .nil)) (.cons 1 [99] .nil .nil)))
theorem lit_parse (b : List Nat) : parseM [[97, 32, 88, 32, 40], [32, 98, 41, 32, 99]] [b] = some (litW b) := rfl
theorem lit_c {b : List Nat} (plus cr : Bool) (hb : b.length ≤ 1000) : feedsM 1000 {} (litS b plus cr) = ({}, (if plus then [] else [⟨2, .nil⟩]) ++ [⟨1, litW b⟩]) := by
  obtain ⟨x, e1, e2, e3⟩ := feeds_mark 1000 {} [97, 32, 88, 32, 40] b.length plus cr (by omega) rfl rfl rfl rfl (by decide) (by decide)
  have hl := markT_len (pre := [97, 32, 88, 32, 40]) (n := b.length) (plus := plus)
  unfold litS
  rw [feedsM_append _ _ (markT [97, 32, 88, 32, 40] b.length plus ++ eol cr ++ b), feedsM_append _ _ (markT [97, 32, 88, 32, 40] b.length plus ++ eol cr), e2, endM_want (r := { now := x }) e3 (by show ((b.length : Nat) : Int) ≤ 1000 - ((0 : Nat) : Int); omega)]
  simp only [e1]
  obtain ⟨L, hL⟩ : ∃ L, L = (markT [97, 32, 88, 32, 40] b.length plus).length := ⟨_, rfl⟩
  rw [← hL] at hl ⊢
  have key : feedsM 1000 { texts := [] ++ [[97, 32, 88, 32, 40]], lits := if b.length = 0 then [] ++ [[]] else [], long := 0 + L, wide := 0 + b.length, now := [], want := b.length, lit := [], literal := decide (0 < b.length), skip := 0, line := false } b =
      ({ texts := [[97, 32, 88, 32, 40]], lits := [b], long := L, wide := b.length, now := [], want := 0, lit := [], literal := false, skip := 0, line := false }, []) := by
    by_cases h0 : b.length = 0
    · have : b = [] := List.length_eq_zero_iff.1 h0
      subst this
      simp [feedsM]
    · rw [if_neg h0, decide_eq_true (show 0 < b.length by omega)]
      rw [feeds_lit 1000 b _ rfl rfl (fun e => h0 (by rw [e]; rfl)) (Nat.le_refl _), if_pos rfl]
      simp
  rw [key]
  simp only []
  obtain ⟨y, g1, g2⟩ := feeds_text 1000 { texts := [[97, 32, 88, 32, 40]], lits := [b], long := L, wide := b.length, now := [], want := 0, lit := [], literal := false, skip := 0, line := false } [32, 98, 41, 32, 99] cr rfl rfl rfl (by decide) (by show ∀ c ∈ ([] : List Nat) ++ [32, 98, 41, 32, 99], c ≠ 13; decide) (by show L + 0 + 5 ≤ 4096; simp only [List.length_cons, List.length_nil] at hl; omega)
  rw [g2]
  have g1' : cutCR y = [32, 98, 41, 32, 99] := g1
  rw [endM_words (r := { texts := [[97, 32, 88, 32, 40]], lits := [b], long := L, wide := b.length, now := y, want := 0, lit := [], literal := false, skip := 0, line := false }) (ws := litW b) (by show markerM (cutCR y) = none; rw [g1']; rfl) (by show parseM ([[97, 32, 88, 32, 40]] ++ [cutCR y]) [b] = _; rw [g1']; exact lit_parse b)]
  simp
theorem lit_d (plus cr : Bool) : ∃ r, feedsM 1000 {} ([97, 32, 123, 49, 48, 48, 49] ++ signM plus ++ [125] ++ eol cr) = (r, [⟨3, .nil⟩]) := by
  cases plus <;> cases cr <;> exact ⟨_, rfl⟩
end Go.Ln

noncomputable section
namespace Go.Proofs.Ytgnfkfmhjgbhhaa
open Go Go.Proofs Go.Vm
set_option linter.unusedVariables false
set_option maxRecDepth 100000
/-! 10: pillarbox/pillarboxlaw22.LinePass -/
def Tryk10 : Nat → Bool := fun t => memN t [0, 1, 4, 5, 6, 7, 8, 9, 10, 11, 12, 15, 31, 48]
def Tryr10_0 (fr : F) (h : Hp) : Out :=
  Out.nor (T.set (some (.bool false)) (Pos.of 4) fr) h
def Tryr10_1 (fr : F) (h : Hp) : Out :=
  gtO (T.get fr (Pos.of 0)) fun v0 => bndO (oLenK 2 v0 h) fun v14 h1 =>
  bndO (oBin .gtr .none v14 (.int .i64 200) h1) fun v15 h2 =>
  Out.nor (T.set (some v15) (Pos.of 15) fr) h2
def Tryr10_2 (fr : F) (h : Hp) : Out :=
  bndO (TryF12c [] h) fun v16 h0 =>
  Out.nor (T.set (some v16) (Pos.of 4) fr) h0
def Tryr10_3 (fr : F) (h : Hp) : Out :=
  gtO (T.get fr (Pos.of 1)) fun v1 => bndO (oConvInt .i64 v1 h) fun v18 h1 =>
  bndO (oBin .rem .none v18 (.int .i64 100) h1) fun v19 h2 =>
  bndO (oBin .add .none (.int .i64 11) v19 h2) fun v20 h3 =>
  Out.nor (T.set (some v20) (Pos.of 5) fr) h3
def Tryr10_4 (fr : F) (h : Hp) : Out :=
  gtO (T.get fr (Pos.of 5)) fun v5 => bndO (oMakeSlice 1 [(.int .u8 0)] v5 v5 h) fun v22 h1 =>
  Out.nor (T.set (some v22) (Pos.of 6) fr) h1
def Tryr10_5 (fr : F) (h : Hp) : Out :=
  Out.nor (T.set (some (.int .i64 0)) (Pos.of 7) fr) h
def Tryr10_6 (fr : F) (h : Hp) : Out :=
  gtO (T.get fr (Pos.of 7)) fun v7 => gtO (T.get fr (Pos.of 0)) fun v0 => bndO (oLenK 2 v0 h) fun v25 h2 =>
  bndO (oBin .lss .none v7 v25 h2) fun v26 h3 =>
  ifB v26 (gtO (T.get fr (Pos.of 5)) fun v5 => bndO (oBin .lss .none v7 v5 h3) fun v30 h7 =>
  Out.nor (T.set (some v30) (Pos.of 31) fr) h7) (Out.nor (T.set (some (.bool false)) (Pos.of 31) fr) h3)
def Tryr10_8 (fr : F) (h : Hp) : Out :=
  gtO (T.get fr (Pos.of 6)) fun v6 => gtO (T.get fr (Pos.of 7)) fun v7 => gtO (T.get fr (Pos.of 0)) fun v0 => bndO (oIdxS 1 v0 v7 h) fun v38 h4 =>
  bndO (oLoad1 v38 h4) fun v39 h5 =>
  bndO (oIdxS 1 v6 v7 h5) fun v40 h6 =>
  bndO (oStore 1 v40 v39 h6) fun _u7 h7 =>
  Out.nor fr h7
def Tryr10_7 (fr : F) (h : Hp) : Out :=
  gtO (T.get fr (Pos.of 7)) fun v7 => bndO (oBin .add .none v7 (.int .i64 1) h) fun v33 h1 =>
  Out.nor (T.set (some v33) (Pos.of 7) fr) h1
def Tryr10_9 (fr : F) (h : Hp) : Out :=
  bndO (TryF13 [(.int .i64 10)] h) fun v41 h0 =>
  bndO (TryF13 [(.int .i64 10)] h0) fun v42 h1 =>
  Out.nor (T.set (some v42) (Pos.of 9) (T.set (some v41) (Pos.of 8) fr)) h1
def Tryr10_10 (fr : F) (h : Hp) : Out :=
  gtO (T.get fr (Pos.of 8)) fun v8 => bndO (oBin .eql (.ptr 11) v8 .nilp h) fun v44 h1 =>
  ifB v44 (Out.nor (T.set (some (.bool true)) (Pos.of 48) fr) h1) (gtO (T.get fr (Pos.of 9)) fun v9 => bndO (oBin .eql (.ptr 11) v9 .nilp h1) fun v47 h4 =>
  Out.nor (T.set (some v47) (Pos.of 48) fr) h4)
def Tryr10_11 (fr : F) (h : Hp) : Out :=
  Out.nor (T.set (some (.bool false)) (Pos.of 4) fr) h
def Tryr10_12 (fr : F) (h : Hp) : Out :=
  gtO (T.get fr (Pos.of 5)) fun v5 => bndO (TryF19r [v5] h) fun v50 h1 =>
  bndO (oBin .add .none (.str [97, 32, 123]) v50 h1) fun v51 h2 =>
  bndO (oBin .add .none v51 (.str [43, 125, 13, 10]) h2) fun v52 h3 =>
  bndO (oStrBytes v52 h3) fun v53 h4 =>
  gtO (T.get fr (Pos.of 6)) fun v6 => bndO (oAppend 1 1 v53 v6 h4) fun v55 h6 =>
  Out.nor (T.set (some v55) (Pos.of 10) fr) h6
def Tryr10_13 (fr : F) (h : Hp) : Out :=
  gtO (T.get fr (Pos.of 10)) fun v10 => bndO (oAppend 1 1 v10 (.str [32, 109, 111, 114, 101, 32, 40, 13, 10, 120, 32, 121, 13, 10]) h) fun v57 h1 =>
  Out.nor (T.set (some v57) (Pos.of 10) fr) h1
def Tryr10_14 (fr : F) (h : Hp) : Out :=
  gtO (T.get fr (Pos.of 8)) fun v8 => gtO (T.get fr (Pos.of 10)) fun v10 => bndO (TryF16 [v8, v10] h) fun v60 h2 =>
  Out.nor (T.set (some v60) (Pos.of 11) fr) h2
def Tryr10_15 (fr : F) (h : Hp) : Out :=
  gtO (T.get fr (Pos.of 9)) fun v9 => gtO (T.get fr (Pos.of 5)) fun v5 => bndO (TryF19r [v5] h) fun v63 h2 =>
  bndO (oBin .add .none (.str [97, 32, 123]) v63 h2) fun v64 h3 =>
  bndO (oBin .add .none v64 (.str [125, 13, 10, 120, 32, 121, 13, 10]) h3) fun v65 h4 =>
  bndO (oStrBytes v65 h4) fun v66 h5 =>
  bndO (TryF16 [v9, v66] h5) fun v67 h6 =>
  Out.nor (T.set (some v67) (Pos.of 12) fr) h6
def Tryr10_16 (fr : F) (h : Hp) : Out :=
  gtO (T.get fr (Pos.of 11)) fun v11 => bndO (oLenK 2 v11 h) fun v69 h1 =>
  bndO (oBin .eql .none v69 (.int .i64 2) h1) fun v70 h2 =>
  ifB v70 (bndO (oIdxS 2 v11 (.int .i64 0) h2) fun v73 h5 =>
  bndO (oFieldAddr 0 v73 h5) fun v74 h6 =>
  bndO (oLoad1 v74 h6) fun v75 h7 =>
  bndO (oBin .eql .none v75 (.int .i64 3) h7) fun v76 h8 =>
  ifB v76 (bndO (oIdxS 2 v11 (.int .i64 1) h8) fun v80 h12 =>
  bndO (oFieldAddr 0 v80 h12) fun v81 h13 =>
  bndO (oLoad1 v81 h13) fun v82 h14 =>
  bndO (oBin .eql .none v82 (.int .i64 1) h14) fun v83 h15 =>
  ifB v83 (gtO (T.get fr (Pos.of 12)) fun v12 => bndO (oLenK 2 v12 h15) fun v87 h19 =>
  bndO (oBin .eql .none v87 (.int .i64 2) h19) fun v88 h20 =>
  ifB v88 (bndO (oIdxS 2 v12 (.int .i64 0) h20) fun v92 h24 =>
  bndO (oFieldAddr 0 v92 h24) fun v93 h25 =>
  bndO (oLoad1 v93 h25) fun v94 h26 =>
  bndO (oBin .eql .none v94 (.int .i64 3) h26) fun v95 h27 =>
  ifB v95 (bndO (oIdxS 2 v12 (.int .i64 1) h27) fun v99 h31 =>
  bndO (oFieldAddr 0 v99 h31) fun v100 h32 =>
  bndO (oLoad1 v100 h32) fun v101 h33 =>
  bndO (oBin .eql .none v101 (.int .i64 1) h33) fun v102 h34 =>
  ifB v102 (bndO (oIdxS 2 v12 (.int .i64 1) h34) fun v106 h38 =>
  bndO (oFieldAddr 1 v106 h38) fun v107 h39 =>
  bndO (oLoad1 v107 h39) fun v108 h40 =>
  bndO (oLenK 2 v108 h40) fun v109 h41 =>
  bndO (oBin .eql .none v109 (.int .i64 2) h41) fun v110 h42 =>
  ifB v110 (bndO (TryF12c [] h42) fun v113 h45 =>
  Out.nor (T.set (some v113) (Pos.of 4) fr) h45) (Out.nor (T.set (some (.bool false)) (Pos.of 4) fr) h42)) (Out.nor (T.set (some (.bool false)) (Pos.of 4) fr) h34)) (Out.nor (T.set (some (.bool false)) (Pos.of 4) fr) h27)) (Out.nor (T.set (some (.bool false)) (Pos.of 4) fr) h20)) (Out.nor (T.set (some (.bool false)) (Pos.of 4) fr) h15)) (Out.nor (T.set (some (.bool false)) (Pos.of 4) fr) h8)) (Out.nor (T.set (some (.bool false)) (Pos.of 4) fr) h2)
def Tryb10_6 : F → Hp → Out := (seqO (seqO Tryr10_6 (cndX (.tmp 31) Out.nor (Out.ex 0))) (seqO (blkO 1 Tryr10_8) Tryr10_7))
def Tryd10 : F → Hp → Out := (seqO Tryr10_0 (seqO (seqO Tryr10_1 (cndX (.tmp 15) (seqO Tryr10_2 Out.ret) Out.nor)) (seqO Tryr10_3 (seqO Tryr10_4 (seqO (seqO Tryr10_5 (blkO 0 (loopO Tryb10_6 lf))) (seqO Tryr10_9 (seqO (seqO Tryr10_10 (cndX (.tmp 48) (seqO Tryr10_11 Out.ret) Out.nor)) (seqO Tryr10_12 (seqO Tryr10_13 (seqO Tryr10_14 (seqO Tryr10_15 (seqO Tryr10_16 Out.ret))))))))))))
def Trye10 : FuncId → Option Fun := fun f => match Nat.beq f 12 with | true => some TryF12c | false => match Nat.beq f 13 with | true => some TryF13 | false => match Nat.beq f 19 with | true => some TryF19r | false => match Nat.beq f 16 with | true => some TryF16 | false => none
def Tryp10 : Plans := fun id => none
def TryF10 : Fun := funX Try.prog 0 Tryk10 Trye10 Tryp10 lf Try.f10
theorem TryD10 : denX Try.prog 0 Try.f10.ntmps Tryk10 Trye10 Tryp10 lf (codeOf Try.f10) = Tryd10 := by kernel_rfl
theorem TryF10_eq (x0 x1 : V) (h : Hp) : TryF10 [x0, x1] h = outR Try.prog [.tmp 4] (Tryd10 (T.set (some x1) (Pos.of 1) (T.set (some x0) (Pos.of 0) T.nil)) h) := funX_eq (by kernel_rfl) TryD10 (by kernel_rfl) h
theorem Tryc10 : CallOk Try.prog 0 10 TryF10 := funX_ok Trymix (callsOk_cons Tryc12c (callsOk_cons Tryc13 (callsOk_cons Tryc19r (callsOk_cons Tryc16 callsOk_0)))) Try.func10 (by kernel_rfl)

end Go.Proofs.Ytgnfkfmhjgbhhaa

noncomputable section
namespace Go.Proofs.Ytgnfkfmhjgbhhaa
open Go Go.Proofs Go.Vm Go.Ln
set_option linter.unusedVariables false
set_option maxRecDepth 100000
set_option linter.unusedSimpArgs false
theorem RdF0 {i j : Pos} (q : RdF i .nils .nils .nils .nils j) : j = i := by
  rcases q with q | q | q | q | q
  · exact q
  · cases q
  · cases q
  · cases q
  · cases q
theorem bys_set (s : List Nat) (k d : Nat) : (bys s).set k (.int .u8 (d : Int)) = bys (s.set k d) := by simp [bys, List.map_set]
theorem bys_rep (k d : Nat) : List.replicate k (V.int .u8 (d : Int)) = bys (List.replicate k d) := by simp [bys]
theorem dig_r {n : Nat} (h : Hp) (hn : n < 100000) : ∃ h', TryF19r [.int .i64 (n : Int)] h = .ok (.str (digM n)) h' ∧ Ch (fun _ => False) h h' := dig_ok 5 n h (by omega) (by omega) (by omega) (by omega)
theorem pass_ok {c : Nat} {v0 : V} {bs : List Nat} {h : Hp} (s : Sl c h 1 v0 bs.length (bys bs)) (hc : c ≤ h.next.nat) (h256 : ∀ x ∈ bs, x < 256) (hlen : bs.length < 9223372036854775808) {n : Nat} (hn : n < 256) : ∃ h', TryF10 [v0, .int .u8 (n : Int)] h = .ok (.bool true) h' := by
  suffices hs : Tells Try.prog [.tmp 4] (fun v _ => v = .bool true) (Tryd10 (T.set (some (.int .u8 (n : Int))) (Pos.of 1) (T.set (some v0) (Pos.of 0) T.nil)) h) by
    rw [TryF10_eq]
    obtain ⟨r, h', e, rfl⟩ := hs
    exact ⟨h', e⟩
  by_cases h200 : bs.length > 200
  · have h200' : (bs.length : Int) > 200 := by omega
    simp (disch := omega) only [seqO_eq, thenO_nor, thenO_ret, gtO_some, bndO_ok, get_set_of, cndX_tmp, ifB_true, Nat.zero_ne_one, reduceCtorEq, ↓reduceIte, oBin_gtr, decide_true, Tryd10, Tryr10_0, Tryr10_1, Tryr10_2, s.length, h200', awake_eq]
    exact Tells.ret (by simp only [resK, get_set_of, ↓reduceIte, tupR] <;> rfl) rfl
  have h200' : ¬ (bs.length : Int) > 200 := by omega
  obtain ⟨k, hk⟩ : ∃ k, k = 11 + n % 100 := ⟨_, rfl⟩
  have hk1 : 11 ≤ k := by omega
  have hk2 : k < 111 := by omega
  have ek : (11 : Int) + ((n % 100 : Nat) : Int) = (k : Int) := by omega
  have er : (n : Int).tmod 100 = ((n % 100 : Nat) : Int) := by rw [Int.tmod_eq_emod_of_nonneg (by omega)]; rfl
  have mk := oMakeSlice_1 (h := h) (n := k) (z := .int .u8 0) (by omega)
  have ix : ∀ (q : Nat) h', q < k → oIdxS 1 (.slice h.next 0 k (.kn k)) (.int .i64 (q : Int)) h' = .ok (.ptr h.next q) h' := fun q h' hq => by
    rw [oIdxS_slice hq, Nat.zero_add, Nat.mul_one]
  simp (disch := omega) only [seqO_eq, thenO_nor, gtO_some, bndO_ok, get_set_of, cndX_tmp, ifB_false, blkO_eq, Nat.reduceEqDiff, Nat.zero_ne_one, reduceCtorEq, ↓reduceIte, oBin_add, oBin_gtr, oConvInt_i64, oBin_rem, decide_false, Tryd10, Tryr10_0, Tryr10_1, Tryr10_3, Tryr10_4, Tryr10_5, s.length, h200', er, ek, mk]
  refine Oc.then (loop_rule (n := bs.length) (fun m fr g => ∃ (q : Nat) (ps : List Nat), fr.get (Pos.of 0) = some v0 ∧ fr.get (Pos.of 5) = some (.int .i64 (k : Int)) ∧ fr.get (Pos.of 6) = some (.slice h.next 0 k (.kn k)) ∧ fr.get (Pos.of 7) = some (.int .i64 (q : Int)) ∧ q + m = bs.length ∧
      ps.length = k ∧ (∀ x ∈ ps, x < 256) ∧ h.next.nat < g.next.nat ∧ Ch (fun _ => False) h g ∧ g.get h.next = some (.cells true (bys ps)))
    (A := fun fr g => ∃ (ps : List Nat), fr.get (Pos.of 5) = some (.int .i64 (k : Int)) ∧ fr.get (Pos.of 6) = some (.slice h.next 0 k (.kn k)) ∧
      ps.length = k ∧ (∀ x ∈ ps, x < 256) ∧ h.next.nat < g.next.nat ∧ g.get h.next = some (.cells true (bys ps))) (B := fun _ _ => False) (by rw [lf_eq]; omega) ?_ ?_) ?_ ?_
  · refine ⟨0, List.replicate k 0, by simp only [get_set_of, Nat.zero_ne_one, reduceCtorEq, ↓reduceIte], by simp only [get_set_of, Nat.reduceEqDiff, ↓reduceIte], by simp only [get_set_of, Nat.reduceEqDiff, ↓reduceIte], by simp only [get_set_of, ↓reduceIte]; rfl, by omega, by simp, fun x hx => by rw [List.eq_of_mem_replicate hx]; omega, by rw [new_next_nat]; omega, Ch.new _ _ _, ?_⟩
    rw [new_self, ← bys_rep]; rfl
  · rintro m fr g ⟨q, ps, f0, f5, f6, f7, hq, hps, hp256, hlt, ch, hg⟩
    by_cases hm : (q : Int) < (bs.length : Int)
    · by_cases hmk : (q : Int) < (k : Int)
      · have hqb : q < bs.length := by omega
        have hqk : q < k := by omega
        obtain ⟨j, p, x, hx, e1, hj, e2⟩ := s.at1 hqb
        have hx' : x = .int .u8 ((bs[q] : Nat) : Int) := by
          rw [bys, List.getElem?_map, List.getElem?_eq_getElem hqb] at hx
          cases hx; rfl
        subst hx'
        have e2' := e2 g (ch.get j (by omega) (fun q => q))
        have e3 := ix q g hqk
        have e4 := st_get (q := q) (y := .int .u8 ((bs[q] : Nat) : Int)) hg ⟨rfl, rfl⟩ (by rw [bys_length]; omega)
        rw [bys_set] at e4
        have hbq := h256 bs[q] (List.getElem_mem hqb)
        simp (disch := omega) only [seqO_eq, thenO_nor, gtO_some, bndO_ok, get_set_of, cndX_tmp, ifB_true, blkO_eq, blkX_nor, Nat.reduceEqDiff, reduceCtorEq, ↓reduceIte, oBin_add, oBin_lss, decide_true, Tryb10_6, Tryr10_6, Tryr10_8, Tryr10_7, f0, f5, f6, f7, s.length, hm, hmk, e1, e2', e3, e4]
        refine ⟨m - 1, by omega, q + 1, ps.set q bs[q], by simp only [get_set_of, reduceCtorEq, ↓reduceIte, f0], by simp only [get_set_of, Nat.reduceEqDiff, ↓reduceIte, f5], by simp only [get_set_of, Nat.reduceEqDiff, ↓reduceIte, f6], by simp only [get_set_of, ↓reduceIte]; rfl, by omega, by rw [List.length_set]; exact hps, fun x hx => ?_, hlt, ⟨ch.next, fun j' hj' hn => ?_⟩, put_self _ _ _⟩
        · rcases List.mem_or_eq_of_mem_set hx with hx | hx
          · exact hp256 x hx
          · rw [hx]; exact hbq
        · rw [put_ne g (by omega) _]; exact ch.get j' hj' hn
      · simp (disch := omega) only [seqO_eq, thenO_nor, thenO_ex, gtO_some, bndO_ok, get_set_of, cndX_tmp, ifB_true, ifB_false, ↓reduceIte, oBin_lss, decide_true, decide_false, Tryb10_6, Tryr10_6, f0, f5, f7, s.length, hm, hmk]
        exact ⟨rfl, ps, by simp only [get_set_of, Nat.reduceEqDiff, ↓reduceIte, f5], by simp only [get_set_of, Nat.reduceEqDiff, ↓reduceIte, f6], hps, hp256, hlt, hg⟩
    · simp (disch := omega) only [seqO_eq, thenO_nor, thenO_ex, gtO_some, bndO_ok, get_set_of, cndX_tmp, ifB_false, ↓reduceIte, oBin_lss, decide_false, Tryb10_6, Tryr10_6, f0, f5, f7, s.length, hm]
      exact ⟨rfl, ps, by simp only [get_set_of, Nat.reduceEqDiff, ↓reduceIte, f5], by simp only [get_set_of, Nat.reduceEqDiff, ↓reduceIte, f6], hps, hp256, hlt, hg⟩
  · rintro fr g ⟨ps, f5, f6, hps, hp256, hlt, hg⟩
    have hmax : max (10 : Int) 1 = 10 := rfl
    obtain ⟨g1, n1, a1, c1, -⟩ := new_ok 10 g
    obtain ⟨g2, n2, a2, c2, l2⟩ := new_ok 10 g1
    rw [hmax] at a1 a2
    have k0 : RdOk 10 0 {} := RdOk.fresh (by decide) (by decide) (Nat.zero_le _)
    obtain ⟨g3, d3, c3⟩ := dig_r g2 (n := k) (by omega)
    have hdl := digM_len k
    obtain ⟨S1, hS1⟩ : ∃ S1, S1 = [97, 32, 123] ++ digM k ++ [43, 125, 13, 10] := ⟨_, rfl⟩
    have lS1 : S1.length ≤ 12 := by rw [hS1]; simp only [List.length_append, List.length_cons, List.length_nil]; omega
    have m1 : ∀ h, oBin .add .none (.str [97, 32, 123]) (.str (digM k)) h = .ok (.str ([97, 32, 123] ++ digM k)) h := fun h => oBin_str_add (by simp only [List.length_cons, List.length_nil]; omega)
    have m2 : ∀ h, oBin .add .none (.str ([97, 32, 123] ++ digM k)) (.str [43, 125, 13, 10]) h = .ok (.str S1) h := fun h => by rw [hS1]; exact oBin_str_add (by simp only [List.length_append, List.length_cons, List.length_nil]; omega)
    have b1 := oStrBytes_ok (h := g3) (s := S1) (by omega)
    obtain ⟨g4, hg4⟩ : ∃ g4, g4 = g3.new (.bytes (bys S1)) := ⟨_, rfl⟩
    have B4 := Byt.new S1 g3
    have c4 : Ch (fun _ => False) g3 g4 := by rw [hg4]; exact Ch.new _ _ _
    rw [← hg4] at B4 b1
    have lt14 : g1.next.nat < g3.next.nat := by have := c3.next; omega
    have n01 := a1.lt
    have n12 := a2.lt
    have c14 : Ch (fun _ => False) g g4 := ((c1.trans c2 fun _ _ q => q).trans c3 fun _ _ q => q).trans c4 fun _ _ q => q
    have n23 := c3.next
    have n34 := c4.next
    have sp : Sl (h.next.nat + 1) g4 1 (.slice h.next 0 k (.kn k)) ps.length (bys ps) := by
      rw [hps]
      exact Sl.row (c := .kn k) (by rw [bys_length]; exact hps) (Nat.lt_of_lt_of_le hlt c14.next) (by rw [c14.get _ hlt fun q => q]; exact hg)
    obtain ⟨v5, g5, e5, B5, c5, i5⟩ := app_sl B4 sp (by rw [hps]; omega)
    obtain ⟨v6, g6, e6, B6, c6, i6⟩ := app_str (t := [32, 109, 111, 114, 101, 32, 40, 13, 10] ++ [120, 32, 121, 13, 10]) B5 (by simp only [List.length_append, List.length_cons, List.length_nil]; omega)
    replace e6 : oAppend 1 1 v5 (.str [32, 109, 111, 114, 101, 32, 40, 13, 10, 120, 32, 121, 13, 10]) g5 = .ok v6 g6 := e6
    have id5 : ∀ j, idOf v5 = some j → g3.next.nat ≤ j.nat := fun j hj => by
      rcases i5 j hj with q | q
      · cases q; exact Nat.le_refl _
      · have := c4.next; omega
    have id6 : ∀ j, idOf v6 = some j → g3.next.nat ≤ j.nat := fun j hj => by
      rcases i6 j hj with q | q
      · exact id5 j q
      · have := c4.next; have := c5.next; omega
    have c36 : Ch (fun j => g3.next.nat ≤ j.nat) g3 g6 := ((c4.mono fun j _ q => q.elim).trans c5 fun j hj q => by cases q; exact Nat.le_refl _).trans c6 fun j hj q => id5 j q
    have x6 : RdAt 10 g6 g.next {} .nils .nils .nils .nils := ((a1.ch c2 fun _ _ q => q).ch c3 fun _ _ q => q).ch c36 fun j q q' => by rw [RdF0 q] at q'; omega
    have y6 : RdAt 10 g6 g1.next {} .nils .nils .nils .nils := (a2.ch c3 fun _ _ q => q).ch c36 fun j q q' => by rw [RdF0 q] at q'; omega
    have eS : S1 ++ ps ++ ([32, 109, 111, 114, 101, 32, 40, 13, 10] ++ [120, 32, 121, 13, 10]) = passS k ps := by
      rw [hS1]; unfold passS markT signM eol; simp
    rw [eS] at B6
    have lpS : (passS k ps).length ≤ 400 := by rw [← eS]; simp only [List.length_append, List.length_cons, List.length_nil]; omega
    have pS256 : ∀ x ∈ passS k ps, x < 256 := fun x hx => by
      rw [← eS, hS1] at hx
      simp only [List.mem_append, List.mem_cons, List.not_mem_nil, or_false] at hx
      rcases hx with (((hx | hx) | hx) | hx) | hx
      · omega
      · have := digM_digit k x hx; omega
      · omega
      · exact hp256 x hx
      · omega
    obtain ⟨v7, g7, vt, vl, vn, vq, e7, x7, p7, t7⟩ := feed_b (by decide) x6 k0 B6.sl (Nat.le_refl _) B6.cap (fun j hj q => by have := id6 j hj; rw [RdF0 q] at this; omega) (by omega) pS256
    obtain ⟨ws, fp⟩ := pass_c hps hk1 (by omega)
    rw [fp] at x7 t7
    obtain ⟨g8, d8, c8⟩ := dig_r g7 (n := k) (by omega)
    have y8 : RdAt 10 g8 g1.next {} .nils .nils .nils .nils := (y6.ch p7.ch fun j q q' => by
      have h1 := RdF0 q
      have h2 := RdF0 q'
      rw [h1] at h2
      have := congrArg Pos.nat h2
      omega).ch c8 fun _ _ q => q
    obtain ⟨S2, hS2⟩ : ∃ S2, S2 = [97, 32, 123] ++ digM k ++ [125, 13, 10, 120, 32, 121, 13, 10] := ⟨_, rfl⟩
    have lS2 : S2.length ≤ 16 := by rw [hS2]; simp only [List.length_append, List.length_cons, List.length_nil]; omega
    have m3 : ∀ h, oBin .add .none (.str ([97, 32, 123] ++ digM k)) (.str [125, 13, 10, 120, 32, 121, 13, 10]) h = .ok (.str S2) h := fun h => by rw [hS2]; exact oBin_str_add (by simp only [List.length_append, List.length_cons, List.length_nil]; omega)
    have b2 := oStrBytes_ok (h := g8) (s := S2) (by omega)
    obtain ⟨v9, g9, vt', vl', vn', vq', e9, y9, p9, t9⟩ := feed_s (by decide) y8 k0 (s := S2) (by omega) (fun x hx => by
      rw [hS2] at hx
      simp only [List.mem_append, List.mem_cons, List.not_mem_nil, or_false] at hx
      rcases hx with (hx | hx) | hx
      · omega
      · have := digM_digit k x hx; omega
      · omega)
    obtain ⟨wd, fd, wd2⟩ := pass_d hk1 (show k < 1010 by omega)
    have eS2 : S2 = markT [97, 32] k false ++ eol true ++ [120, 32, 121, 13, 10] := by
      rw [hS2]; unfold markT signM eol; simp
    rw [eS2, fd] at t9
    have n6 : g1.next.nat < g6.next.nat := by have := c36.next; omega
    have t7' : Told (fun j => g6.next.nat ≤ j.nat) g9 v7 [⟨3, .nil⟩, ⟨1, ws⟩] := (t7.ch c8 fun j hj q => ⟨q, fun q => q⟩).ch p9.ch fun j hj q => ⟨q.1, fun q' => by
      have q1 := q.1
      rw [RdF0 q'] at q1; omega⟩
    obtain ⟨j0, q0, w0, x01, x02, -, -⟩ := t7'.at (k := 0) rfl
    obtain ⟨j1, q1, w1, x11, x12, -, -⟩ := t7'.at (k := 1) rfl
    obtain ⟨j2, q2, w2, x21, x22, -, -⟩ := t9.at (k := 0) rfl
    obtain ⟨j3, q3, w3, x31, x32, x33, x34⟩ := t9.at (k := 1) rfl
    replace x01 : ∀ h', oIdxS 2 v7 (.int .i64 0) h' = .ok (.ptr j0 q0) h' := x01
    replace x11 : ∀ h', oIdxS 2 v7 (.int .i64 1) h' = .ok (.ptr j1 q1) h' := x11
    replace x21 : ∀ h', oIdxS 2 v9 (.int .i64 0) h' = .ok (.ptr j2 q2) h' := x21
    replace x31 : ∀ h', oIdxS 2 v9 (.int .i64 1) h' = .ok (.ptr j3 q3) h' := x31
    have la : ∀ h', oLenK 2 v7 h' = .ok (.int .i64 2) h' := t7'.len
    have lb : ∀ h', oLenK 2 v9 h' = .ok (.int .i64 2) h' := t9.len
    have lw : ∀ h', oLenK 2 w3 h' = .ok (.int .i64 2) h' := fun h' => by
      have := WRow.len x34 h'
      rw [show (⟨1, wd⟩ : Ln.Got).words.len = 2 from wd2] at this
      exact this
    simp (disch := omega) only [seqO_eq, thenO_nor, gtO_some, bndO_ok, get_set_of, cndX_tmp, ifB_true, ifB_false, Nat.reduceEqDiff, ↓reduceIte, oBin_eql, oFieldAddr_eq, decide_true, Tryr10_9, Tryr10_10, Tryr10_12, Tryr10_13, Tryr10_14, Tryr10_15, Tryr10_16, f5, f6, n1, n2, nilcmp, d3, m1, m2, b1, e5, e6, e7, d8, m3, b2, e9, la, x01, Nat.add_zero, x02, x11, x12, lb, x21, x22, x31, x32, x33, lw, awake_eq]
    exact Tells.ret (by simp only [resK, get_set_of, ↓reduceIte, tupR] <;> rfl) rfl
  · rintro fr g q
    exact q.elim
end Go.Proofs.Ytgnfkfmhjgbhhaa
