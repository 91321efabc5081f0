/- Part of the value machine, or of a walk by it: lemmas that the claim's last text uses. No conditions. -/
import Derived.Test.YtgnfkfmhjgbhhaaChecked
import Derived.KernelRfl
import Derived.Test.YtgnfkfmhjgbhhaaLineB
set_option linter.unusedVariables false
set_option linter.unusedSimpArgs false
set_option linter.unnecessarySimpa false
noncomputable section
namespace Go.Proofs.Ytgnfkfmhjgbhhaa
open Go Go.Proofs Go.Vm Go.Ln
set_option linter.unusedVariables false
set_option maxRecDepth 100000
set_option linter.unusedSimpArgs false
/-! texts that end with a byte -/
theorem drop_last_one {s : List Nat} {c : Nat} : s.drop (s.length - 1) = [c] ↔ s.getLast? = some c := by
  cases hs : s with
  | nil => simp
  | cons a l =>
    have hne : (a :: l) ≠ [] := by simp
    rw [List.getLast?_eq_some_getLast hne]
    have : (a :: l).drop ((a :: l).length - 1) = [(a :: l).getLast hne] := by
      conv => lhs; rw [← List.dropLast_concat_getLast hne]
      rw [List.drop_left' (by simp)]
    rw [this]
    simp
theorem suffix_ok {s : List Nat} {c : Nat} (hl : s.length < 4611686018427387904) (h : Hp) : TryF41 [.str s, .str [c]] h = .ok (.bool (decide (s.getLast? = some c))) h := by
  rw [TryF41_eq]
  by_cases hs : s.length ≥ 1
  · have h1 : (s.length : Int) ≥ 1 := by omega
    have e : oSliceStr (.str s) (some (.int .i64 ((s.length : Int) - 1))) none h = .ok (.str (s.drop (s.length - 1))) h := by
      rw [show (s.length : Int) - 1 = ((s.length - 1 : Nat) : Int) by omega]
      exact oSliceStr_from (by omega)
    have hz : ((1 : Nat) : Int) = 1 := rfl
    simp (disch := omega) only [seqO_eq, thenO_nor, gtO_some, bndO_ok, get_set_of, ifB_true, Nat.reduceEqDiff, Nat.zero_ne_one, reduceCtorEq, ↓reduceIte, oBin_sub, oBin_geq, oBin_str_eql, oLenK_str, Nat.zero_add, decide_true, Tryd41, Tryr41_0, Tryr41_1, List.length_cons, List.length_nil, hz, h1, e, outR, resK, tupR, drop_last_one]
  · have : s = [] := List.length_eq_zero_iff.1 (by omega)
    subst this
    have hz : ((1 : Nat) : Int) = 1 := rfl
    have hz0 : ((0 : Nat) : Int) = 0 := rfl
    have hno : ¬ ((0 : Int) ≥ 1) := by omega
    simp (disch := omega) only [seqO_eq, thenO_nor, gtO_some, bndO_ok, get_set_of, ifB_false, Nat.reduceEqDiff, Nat.zero_ne_one, reduceCtorEq, ↓reduceIte, oBin_sub, oBin_geq, oLenK_str, Nat.zero_add, decide_false, Tryd41, Tryr41_0, Tryr41_1, List.length_cons, List.length_nil, hz, hz0, hno, outR, resK, tupR, List.getLast?_nil, reduceCtorEq]
theorem take_drop_last {s : List Nat} (hl : 1 ≤ s.length) (h : Hp) : oSliceStr (.str s) none (some (.int .i64 ((s.length : Int) - 1))) h = .ok (.str s.dropLast) h := by
  rw [show (s.length : Int) - 1 = ((s.length - 1 : Nat) : Int) by omega, List.dropLast_eq_take]
  exact oSliceStr_to (by omega)
def cutV (s : List Nat) (c : Nat) : V := if s.getLast? = some c then two (.str s.dropLast) (.bool true) else two (.str s) (.bool false)
theorem cut_ok {s : List Nat} {c : Nat} (hl : s.length < 4611686018427387904) (h : Hp) : TryF33 [.str s, .str [c]] h = .ok (cutV s c) h := by
  have e42 : TryF42 [.str s, .str [c]] h = .ok (cutV s c) h := by
    rw [TryF42_eq]
    have hz : ((1 : Nat) : Int) = 1 := rfl
    by_cases hs : s.getLast? = some c
    · have hpos : 1 ≤ s.length := by cases s with | nil => simp at hs | cons a l => simp
      simp (disch := omega) only [seqO_eq, thenO_nor, gtO_some, bndO_ok, get_set_of, cndX_tmp, ifB_false, Nat.reduceEqDiff, Nat.zero_ne_one, reduceCtorEq, ↓reduceIte, oBin_sub, oUn_not, Bool.not_true, oLenK_str, Nat.zero_add, decide_true, Tryd42, Tryr42_0, Tryr42_1, Tryr42_2, Tryr42_3, suffix_ok hl, hs, List.length_cons, List.length_nil, hz, take_drop_last hpos, outR, resK, tupR, cutV]
      rfl
    · simp (disch := omega) only [seqO_eq, thenO_nor, thenO_ret, gtO_some, bndO_ok, get_set_of, cndX_tmp, ifB_true, Nat.reduceEqDiff, Nat.zero_ne_one, reduceCtorEq, ↓reduceIte, oUn_not, Bool.not_false, decide_false, Tryd42, Tryr42_0, Tryr42_1, Tryr42_2, suffix_ok hl, hs, outR, resK, tupR, cutV]
      rfl
  rw [TryF33_eq]
  by_cases hs : s.getLast? = some c
  · simp only [cutV, hs, if_true] at e42 ⊢
    simp only [seqO_eq, thenO_nor, gtO_some, bndO_ok, get_set_of, Nat.reduceEqDiff, Nat.zero_ne_one, reduceCtorEq, ↓reduceIte, oExtract_0, oExtract_1, Tryd33, Tryr33_0, Tryr33_1, e42, two, outR, resK, tupR]
    rfl
  · simp only [cutV, hs, if_false] at e42 ⊢
    simp only [seqO_eq, thenO_nor, gtO_some, bndO_ok, get_set_of, Nat.reduceEqDiff, Nat.zero_ne_one, reduceCtorEq, ↓reduceIte, oExtract_0, oExtract_1, Tryd33, Tryr33_0, Tryr33_1, e42, two, outR, resK, tupR]
    rfl
theorem trim_ok {s : List Nat} (hl : s.length < 4611686018427387904) (h : Hp) : TryF26 [.str s, .str [13]] h = .ok (.str (cutCR s)) h := by
  have e32 : TryF32 [.str s, .str [13]] h = .ok (.str (cutCR s)) h := by
    rw [TryF32_eq]
    have hz : ((1 : Nat) : Int) = 1 := rfl
    by_cases hs : s.getLast? = some 13
    · have hpos : 1 ≤ s.length := by cases s with | nil => simp at hs | cons a l => simp
      simp (disch := omega) only [seqO_eq, thenO_nor, thenO_ret, gtO_some, bndO_ok, get_set_of, cndX_tmp, ifB_true, Nat.reduceEqDiff, Nat.zero_ne_one, reduceCtorEq, ↓reduceIte, oBin_sub, oLenK_str, Nat.zero_add, decide_true, Tryd32, Tryr32_0, Tryr32_1, Tryr32_2, suffix_ok hl, hs, List.length_cons, List.length_nil, hz, take_drop_last hpos, outR, resK, tupR, cutCR]
    · simp (disch := omega) only [seqO_eq, thenO_nor, gtO_some, bndO_ok, get_set_of, cndX_tmp, ifB_false, Nat.reduceEqDiff, Nat.zero_ne_one, reduceCtorEq, ↓reduceIte, oLenK_str, decide_false, Tryd32, Tryr32_0, Tryr32_1, Tryr32_2, Tryr32_3, suffix_ok hl, hs, outR, resK, tupR, cutCR]
  rw [TryF26_eq]
  simp only [seqO_eq, thenO_nor, gtO_some, bndO_ok, get_set_of, Nat.reduceEqDiff, Nat.zero_ne_one, reduceCtorEq, ↓reduceIte, Tryd26, Tryr26_0, Tryr26_1, e32, outR, resK, tupR]
/-! the last place of a byte -/
theorem lastM_eq (c : Nat) (s : List Nat) : lastM c s = none ∧ c ∉ s ∨ ∃ i, lastM c s = some i ∧ s[i]? = some c ∧ c ∉ s.drop (i + 1) := by
  induction s with
  | nil => exact .inl ⟨rfl, by simp⟩
  | cons d l ih =>
    rcases ih with ⟨h1, h2⟩ | ⟨i, h1, h2, h3⟩
    · by_cases hd : d = c
      · exact .inr ⟨0, by simp [lastM, h1, hd], by simp [hd], by simpa using h2⟩
      · exact .inl ⟨by simp [lastM, h1, hd], by simp [h2, Ne.symm hd]⟩
    · exact .inr ⟨i + 1, by simp [lastM, h1], by simpa using h2, by simpa using h3⟩
theorem lastM_of {c : Nat} {s : List Nat} {i : Nat} (h1 : s[i]? = some c) (h2 : c ∉ s.drop (i + 1)) : lastM c s = some i := by
  rcases lastM_eq c s with ⟨_, h3⟩ | ⟨j, e, h3, h4⟩
  · exact absurd (List.mem_of_getElem? h1) h3
  · rcases Nat.lt_trichotomy i j with hlt | rfl | hlt
    · exact absurd (List.mem_of_getElem? (i := j - (i + 1)) (by rw [List.getElem?_drop, show i + 1 + (j - (i + 1)) = j by omega]; exact h3)) h2
    · exact e
    · exact absurd (List.mem_of_getElem? (i := i - (j + 1)) (by rw [List.getElem?_drop, show j + 1 + (i - (j + 1)) = i by omega]; exact h1)) h4
theorem lastM_none {c : Nat} {s : List Nat} (h : c ∉ s) : lastM c s = none := by
  rcases lastM_eq c s with ⟨h1, _⟩ | ⟨j, e, h3, _⟩
  · exact h1
  · exact absurd (List.mem_of_getElem? h3) h
def lastV (c : Nat) (s : List Nat) : Int := match lastM c s with | some i => (i : Int) | none => -1
theorem last_ok {s : List Nat} {c : Nat} (hl : s.length < 1000000000) (h : Hp) : TryF34 [.str s, .int .u8 (c : Int)] h = .ok (.int .i64 (lastV c s)) h := by
  have e43 : TryF43 [.str s, .int .u8 (c : Int)] h = .ok (.int .i64 (lastV c s)) h := by
    rw [TryF43_eq]
    have : Tells Try.prog [.tmp 4] (fun r h' => r = .int .i64 (lastV c s) ∧ h' = h) (Tryd43 (T.set (some (.int .u8 (c : Int))) (Pos.of 1) (T.set (some (.str s)) (Pos.of 0) T.nil)) h) := by
      simp (disch := omega) only [seqO_eq, thenO_nor, gtO_some, bndO_ok, get_set_of, blkO_eq, Nat.zero_ne_one, reduceCtorEq, ↓reduceIte, oBin_sub, oLenK_str, Tryd43, Tryr43_0, Tryr43_1]
      refine Oc.then (loop_rule (n := s.length) (fun m fr g => fr.get (Pos.of 0) = some (.str s) ∧ fr.get (Pos.of 1) = some (.int .u8 (c : Int)) ∧ fr.get (Pos.of 5) = some (.int .i64 ((m : Int) - 1)) ∧ m ≤ s.length ∧ c ∉ s.drop m ∧ g = h)
        (A := fun fr g => c ∉ s ∧ g = h) (B := fun fr g => fr.get (Pos.of 4) = some (.int .i64 (lastV c s)) ∧ g = h) (by rw [lf_eq]; omega) ?_ ?_) ?_ ?_
      · exact ⟨by simp only [get_set_of, Nat.zero_ne_one, reduceCtorEq, ↓reduceIte], by simp only [get_set_of, Nat.reduceEqDiff, ↓reduceIte], by simp only [get_set_of, ↓reduceIte], Nat.le_refl _, by simp, rfl⟩
      · rintro m fr g ⟨f0, f1, f5, hm, hno, rfl⟩
        cases m with
        | zero =>
          have hlt : ¬ (((0 : Nat) : Int) - 1 ≥ 0) := by omega
          simp (disch := omega) only [seqO_eq, thenO_nor, thenO_ex, gtO_some, bndO_ok, get_set_of, cndX_tmp, ifB_false, ↓reduceIte, oBin_geq, decide_false, Tryb43_2, Tryr43_2, f5, hlt]
          exact ⟨rfl, by simpa using hno, rfl⟩
        | succ m =>
          have hml : m < s.length := by omega
          have hge : (((m + 1 : Nat) : Int) - 1 ≥ 0) := by omega
          have ix : ∀ h, oIdxStr (.str s) (.int .i64 (((m + 1 : Nat) : Int) - 1)) h = .ok (.int .u8 (s[m] : Int)) h := fun h => by
            rw [show ((m + 1 : Nat) : Int) - 1 = (m : Int) by omega]
            exact oIdxStr_ok (List.getElem?_eq_getElem hml)
          by_cases hc : s[m] = c
          · have hc' : ((s[m] : Nat) : Int) = (c : Int) := by rw [hc]
            simp (disch := omega) only [seqO_eq, thenO_nor, thenO_ret, gtO_some, bndO_ok, get_set_of, cndX_tmp, ifB_true, blkO_eq, blkX_ret, Nat.reduceEqDiff, reduceCtorEq, ↓reduceIte, oBin_eql, oBin_geq, decide_true, Tryb43_2, Tryr43_2, Tryr43_4, Tryr43_5, f0, f1, f5, hge, ix, eq_true hc']
            refine ⟨?_, rfl⟩
            simp only [get_set_of, ↓reduceIte]
            rw [lastV, lastM_of (i := m) (by rw [List.getElem?_eq_getElem hml, hc]) hno]
            simp only [Option.some.injEq, V.int.injEq, true_and]
            omega
          · have hc' : ¬ ((s[m] : Nat) : Int) = (c : Int) := by omega
            simp (disch := omega) only [seqO_eq, thenO_nor, gtO_some, bndO_ok, get_set_of, cndX_tmp, ifB_true, ifB_false, blkO_eq, blkX_nor, Nat.reduceEqDiff, reduceCtorEq, ↓reduceIte, oBin_sub, oBin_eql, oBin_geq, decide_true, decide_false, Tryb43_2, Tryr43_2, Tryr43_4, Tryr43_3, f0, f1, f5, hge, ix, hc']
            refine ⟨m, by omega, by simp only [get_set_of, reduceCtorEq, ↓reduceIte, f0], by simp only [get_set_of, Nat.reduceEqDiff, ↓reduceIte, f1], ?_, by omega, ?_, rfl⟩
            · simp only [get_set_of, ↓reduceIte, Option.some.injEq, V.int.injEq, true_and]; omega
            · rw [List.drop_eq_getElem_cons hml, List.mem_cons, not_or]
              exact ⟨fun e => hc e.symm, hno⟩
      · rintro fr g ⟨hno, rfl⟩
        simp only [seqO_eq, thenO_nor, Tryr43_6]
        refine Tells.ret (by simp only [resK, get_set_of, ↓reduceIte, tupR]; rfl) ⟨?_, rfl⟩
        rw [lastV, lastM_none hno]
      · rintro fr g ⟨f4, rfl⟩
        exact Tells.ret (by simp only [resK, f4, tupR]) ⟨rfl, rfl⟩
    obtain ⟨r, h', e, rfl, rfl⟩ := this
    exact e
  rw [TryF34_eq]
  simp only [seqO_eq, thenO_nor, gtO_some, bndO_ok, get_set_of, Nat.reduceEqDiff, Nat.zero_ne_one, reduceCtorEq, ↓reduceIte, Tryd34, Tryr34_0, Tryr34_1, e43, outR, resK, tupR]
end Go.Proofs.Ytgnfkfmhjgbhhaa

noncomputable section
namespace Go.Vm
variable {h : Hp} {c : EqC}
theorem oBin_mul {a b : Int} (h1 : -9223372036854775808 ≤ a * b) (h2 : a * b < 9223372036854775808) : oBin .mul c (.int .i64 a) (.int .i64 b) h = .ok (.int .i64 (a * b)) h := by
  show okInt .i64 (wrap64 (a * b)) h = _
  rw [wrap64_in h1 h2, okInt_eq]
theorem oBin_digit {d : Nat} (h1 : 48 ≤ d) (h2 : d ≤ 57) : oBin .sub c (.int .u8 (d : Int)) (.int .u8 48) h = .ok (.int .u8 ((d - 48 : Nat) : Int)) h := by
  show okInt .u8 (IntKind.u8.wrap ((d : Int) - 48)) h = _
  obtain ⟨e, rfl⟩ : ∃ e, d = e + 48 := ⟨d - 48, by omega⟩
  have he : e < 10 := by omega
  rw [okInt_eq]
  have : IntKind.u8.wrap (((e + 48 : Nat) : Int) - 48) = ((e + 48 - 48 : Nat) : Int) := by
    rw [show ((e + 48 : Nat) : Int) - 48 = (e : Int) by omega, Nat.add_sub_cancel]
    match e, he with
    | 0, _ => rfl
    | 1, _ => rfl
    | 2, _ => rfl
    | 3, _ => rfl
    | 4, _ => rfl
    | 5, _ => rfl
    | 6, _ => rfl
    | 7, _ => rfl
    | 8, _ => rfl
    | 9, _ => rfl
  rw [this]
end Go.Vm
namespace Go.Proofs.Ytgnfkfmhjgbhhaa
open Go Go.Proofs Go.Vm Go.Ln
set_option linter.unusedVariables false
set_option maxRecDepth 100000
set_option linter.unusedSimpArgs false
def digs (l : List Nat) : Nat := l.foldl (fun n c => n * 10 + (c - 48)) 0
theorem digs_snoc (l : List Nat) (c : Nat) : digs (l ++ [c]) = digs l * 10 + (c - 48) := by simp [digs]
theorem digs_lt : ∀ (n : Nat) (l : List Nat), l.length ≤ n → n ≤ 10 → (∀ c ∈ l, 48 ≤ c ∧ c ≤ 57) → digs l < 10 ^ l.length := by
  intro n
  induction n with
  | zero => intro l hl _ _; have : l = [] := List.length_eq_zero_iff.1 (by omega); subst this; simp [digs]
  | succ n ih =>
    intro l hl hn hd
    rcases List.eq_nil_or_concat l with rfl | ⟨l', c, rfl⟩
    · simp [digs]
    · rw [List.concat_eq_append] at *
      have h1 := ih l' (by simp at hl; omega) (by omega) fun d hd' => hd d (by simp [hd'])
      have h2 := hd c (by simp)
      rw [digs_snoc, List.length_append, List.length_singleton, Nat.pow_succ]
      omega
def numV (s : List Nat) : V := match numM s with | some n => two (.int .i64 (n : Int)) (.bool true) | none => two (.int .i64 0) (.bool false)
theorem numM_no {s : List Nat} (hs : s = [] ∨ s.length > 10 ∨ (s.head? = some 48 ∧ s.length > 1) ∨ ¬ (∀ c ∈ s, 48 ≤ c ∧ c ≤ 57)) : numV s = two (.int .i64 0) (.bool false) := by
  unfold numV numM
  rw [if_pos hs]
theorem numM_yes {s : List Nat} (hs : ¬ (s = [] ∨ s.length > 10 ∨ (s.head? = some 48 ∧ s.length > 1) ∨ ¬ (∀ c ∈ s, 48 ≤ c ∧ c ≤ 57))) : numV s = if digs s > 4294967295 then two (.int .i64 0) (.bool false) else two (.int .i64 (digs s : Int)) (.bool true) := by
  unfold numV numM
  rw [if_neg hs]
  show (match (if digs s > 4294967295 then none else some (digs s)) with | some n => two (.int .i64 (n : Int)) (.bool true) | none => two (.int .i64 0) (.bool false)) = _
  by_cases hz : digs s > 4294967295
  · rw [if_pos hz, if_pos hz]
  · rw [if_neg hz, if_neg hz]
theorem num_ok {s : List Nat} (hl : s.length < 1000000000) (h : Hp) : TryF35 [.str s] h = .ok (numV s) h := by
  rw [TryF35_eq]
  have : Tells Try.prog [.tmp 2, .tmp 3] (fun r h' => r = numV s ∧ h' = h) (Tryd35 (T.set (some (.str s)) (Pos.of 0) T.nil) h) := by
    by_cases h0 : s = []
    · subst h0
      simp (disch := omega) only [seqO_eq, thenO_nor, thenO_ret, gtO_some, bndO_ok, get_set_of, cndX_tmp, ifB_true, reduceCtorEq, ↓reduceIte, oBin_gtr, oBin_str_eql, oLenK_str, decide_true, Tryd35, Tryr35_0, Tryr35_1, Tryr35_2]
      exact Tells.ret (by simp only [resK, get_set_of, Nat.reduceEqDiff, ↓reduceIte, tupR]; rfl) ⟨(numM_no (.inl rfl)).symm, rfl⟩
    by_cases h1 : s.length > 10
    · have h1' : (s.length : Int) > 10 := by omega
      simp (disch := omega) only [seqO_eq, thenO_nor, thenO_ret, gtO_some, bndO_ok, get_set_of, cndX_tmp, ifB_true, ifB_false, reduceCtorEq, ↓reduceIte, oBin_gtr, oBin_str_eql, oLenK_str, decide_true, decide_false, Tryd35, Tryr35_0, Tryr35_1, Tryr35_2, h0, h1']
      exact Tells.ret (by simp only [resK, get_set_of, Nat.reduceEqDiff, ↓reduceIte, tupR]; rfl) ⟨(numM_no (.inr (.inl h1))).symm, rfl⟩
    have h1' : ¬ (s.length : Int) > 10 := by omega
    have hpos : 0 < s.length := List.length_pos_iff.2 h0
    have hhd : s.head? = some s[0] := by rw [List.head?_eq_getElem?, List.getElem?_eq_getElem hpos]
    have ix0 : ∀ h, oIdxStr (.str s) (.int .i64 0) h = .ok (.int .u8 (s[0] : Int)) h := fun h => oIdxStr_lit0 (List.getElem?_eq_getElem hpos)
    have goal : ¬ (s.head? = some 48 ∧ s.length > 1) → Tells Try.prog [.tmp 2, .tmp 3] (fun r h' => r = numV s ∧ h' = h) (thenO (Tryr35_3 (T.set (some (.bool false)) (Pos.of 22) (T.set (some (.bool false)) (Pos.of 3) (T.set (some (.int .i64 0)) (Pos.of 2) (T.set (some (.str s)) (Pos.of 0) T.nil)))) h) (seqO (seqO Tryr35_4 (blkO 0 (loopO Tryb35_5 lf))) (seqO (seqO Tryr35_11 (cndX (.tmp 48) (seqO Tryr35_12 Out.ret) Out.nor)) (seqO Tryr35_13 Out.ret)))) := by
      intro h2
      simp (disch := omega) only [seqO_eq, thenO_nor, gtO_some, bndO_ok, get_set_of, blkO_eq, reduceCtorEq, ↓reduceIte, oLenK_str, Tryr35_3, Tryr35_4]
      refine Oc.then (loop_rule (n := s.length) (fun m fr g => ∃ k : Nat, fr.get (Pos.of 0) = some (.str s) ∧ fr.get (Pos.of 25) = some (.int .i64 (k : Int)) ∧ fr.get (Pos.of 24) = some (.int .i64 (s.length : Int)) ∧ fr.get (Pos.of 4) = some (.int .i64 (digs (s.take k) : Int)) ∧ k + m = s.length ∧ (∀ c ∈ s.take k, 48 ≤ c ∧ c ≤ 57) ∧ g = h)
        (A := fun fr g => fr.get (Pos.of 4) = some (.int .i64 (digs s : Int)) ∧ (∀ c ∈ s, 48 ≤ c ∧ c ≤ 57) ∧ g = h) (B := fun fr g => fr.get (Pos.of 2) = some (.int .i64 0) ∧ fr.get (Pos.of 3) = some (.bool false) ∧ ¬ (∀ c ∈ s, 48 ≤ c ∧ c ≤ 57) ∧ g = h) (by rw [lf_eq]; omega) ?_ ?_) ?_ ?_
      · exact ⟨0, by simp only [get_set_of, reduceCtorEq, ↓reduceIte], by simp only [get_set_of, ↓reduceIte]; rfl, by simp only [get_set_of, Nat.reduceEqDiff, ↓reduceIte], by simp only [get_set_of, Nat.reduceEqDiff, ↓reduceIte]; rfl, by omega, fun c hc => by simp at hc, rfl⟩
      · rintro m fr g ⟨k, f0, f25, f24, f4, hk, hall, rfl⟩
        by_cases hlt : k < s.length
        · have hlt' : (k : Int) < (s.length : Int) := by omega
          have hc : s[k]? = some s[k] := List.getElem?_eq_getElem hlt
          have ix : ∀ h, oIdxStr (.str s) (.int .i64 (k : Int)) h = .ok (.int .u8 (s[k] : Int)) h := fun h => oIdxStr_ok hc
          have hbd := digs_lt k (s.take k) (by rw [List.length_take]; omega) (by omega) hall
          have hbd' : digs (s.take k) < 10 ^ 10 := Nat.lt_of_lt_of_le hbd (Nat.pow_le_pow_right (by omega) (by rw [List.length_take]; omega))
          by_cases hd1 : s[k] < 48
          · have hd1' : ((s[k] : Nat) : Int) < 48 := by omega
            simp (disch := omega) only [seqO_eq, thenO_nor, thenO_ret, gtO_some, bndO_ok, get_set_of, cndX_tmp, ifB_true, blkO_eq, blkX_ret, Nat.reduceEqDiff, reduceCtorEq, ↓reduceIte, oBin_lss, oBin_gtr, decide_true, Tryb35_5, Tryr35_5, Tryr35_6, Tryr35_7, Tryr35_8, f0, f25, f24, hlt', ix, hd1']
            exact ⟨by simp only [get_set_of, Nat.reduceEqDiff, ↓reduceIte], by simp only [get_set_of, ↓reduceIte], fun q => by have := q _ (List.mem_of_getElem? hc); omega, rfl⟩
          · have hd1' : ¬ ((s[k] : Nat) : Int) < 48 := by omega
            by_cases hd2 : s[k] > 57
            · have hd2' : ((s[k] : Nat) : Int) > 57 := by omega
              simp (disch := omega) only [seqO_eq, thenO_nor, thenO_ret, gtO_some, bndO_ok, get_set_of, cndX_tmp, ifB_true, ifB_false, blkO_eq, blkX_ret, Nat.reduceEqDiff, reduceCtorEq, ↓reduceIte, oBin_lss, oBin_gtr, decide_true, decide_false, Tryb35_5, Tryr35_5, Tryr35_6, Tryr35_7, Tryr35_8, f0, f25, f24, hlt', ix, hd1', hd2']
              exact ⟨by simp only [get_set_of, Nat.reduceEqDiff, ↓reduceIte], by simp only [get_set_of, ↓reduceIte], fun q => by have := q _ (List.mem_of_getElem? hc); omega, rfl⟩
            · have hd2' : ¬ ((s[k] : Nat) : Int) > 57 := by omega
              simp (disch := omega) only [seqO_eq, thenO_nor, gtO_some, bndO_ok, get_set_of, cndX_tmp, ifB_true, ifB_false, blkO_eq, blkX_nor, Nat.reduceEqDiff, reduceCtorEq, ↓reduceIte, oBin_add, oBin_lss, oBin_gtr, oConvInt_i64, decide_true, decide_false, Tryb35_5, Tryr35_5, Tryr35_6, Tryr35_7, Tryr35_8, Tryr35_9, Tryr35_10, f0, f25, f24, f4, hlt', ix, hd1', hd2', oBin_mul, oBin_digit]
              refine ⟨m - 1, by omega, k + 1, by simp only [get_set_of, reduceCtorEq, ↓reduceIte, f0], by simp only [get_set_of, ↓reduceIte]; rfl, by simp only [get_set_of, Nat.reduceEqDiff, ↓reduceIte, f24], ?_, by omega, fun d hd => ?_, rfl⟩
              · simp only [get_set_of, Nat.reduceEqDiff, ↓reduceIte, Option.some.injEq, V.int.injEq, true_and]
                rw [List.take_add_one, hc, Option.toList_some, digs_snoc]
                omega
              · rw [List.take_add_one, hc] at hd
                rcases List.mem_append.1 hd with hd | hd
                · exact hall d hd
                · simp at hd; omega
        · have hlt' : ¬ (k : Int) < (s.length : Int) := by omega
          have hks : s.take k = s := List.take_of_length_le (by omega)
          rw [hks] at f4 hall
          simp (disch := omega) only [seqO_eq, thenO_nor, thenO_ex, gtO_some, bndO_ok, get_set_of, cndX_tmp, ifB_false, ↓reduceIte, oBin_lss, decide_false, Tryb35_5, Tryr35_5, f25, f24, hlt']
          exact ⟨rfl, by simp only [get_set_of, Nat.reduceEqDiff, ↓reduceIte, f4], hall, rfl⟩
      · rintro fr g ⟨f4, hall, rfl⟩
        have hy := numM_yes (s := s) (by rintro (q | q | q | q); exact h0 q; exact h1 q; exact h2 q; exact q hall)
        by_cases hz : digs s > 4294967295
        · have hz' : ((digs s : Nat) : Int) > 4294967295 := by omega
          rw [if_pos hz] at hy
          simp (disch := omega) only [seqO_eq, thenO_nor, thenO_ret, gtO_some, bndO_ok, get_set_of, cndX_tmp, ifB_true, ↓reduceIte, oBin_gtr, decide_true, Tryr35_11, Tryr35_12, f4, hz']
          exact Tells.ret (by simp only [resK, get_set_of, Nat.reduceEqDiff, ↓reduceIte, tupR]; rfl) ⟨hy.symm, rfl⟩
        · have hz' : ¬ ((digs s : Nat) : Int) > 4294967295 := by omega
          rw [if_neg hz] at hy
          simp (disch := omega) only [seqO_eq, thenO_nor, gtO_some, bndO_ok, get_set_of, cndX_tmp, ifB_false, Nat.reduceEqDiff, ↓reduceIte, oBin_gtr, decide_false, Tryr35_11, Tryr35_12, Tryr35_13, f4, hz']
          exact Tells.ret (by simp only [resK, get_set_of, Nat.reduceEqDiff, ↓reduceIte, tupR]; rfl) ⟨hy.symm, rfl⟩
      · rintro fr g ⟨f2, f3, hno, rfl⟩
        exact Tells.ret (by simp only [resK, f2, f3, tupR]; rfl) ⟨(numM_no (.inr (.inr (.inr hno)))).symm, rfl⟩
    by_cases h48 : s[0] = 48
    · have h48' : ((s[0] : Nat) : Int) = 48 := by omega
      by_cases hg : s.length > 1
      · have hg' : (s.length : Int) > 1 := by omega
        simp (disch := omega) only [seqO_eq, thenO_nor, thenO_ret, gtO_some, bndO_ok, get_set_of, cndX_tmp, ifB_true, ifB_false, reduceCtorEq, ↓reduceIte, oBin_eql, oBin_gtr, oBin_str_eql, oLenK_str, decide_true, decide_false, Tryd35, Tryr35_0, Tryr35_1, Tryr35_2, h0, h1', ix0, eq_true h48', hg']
        exact Tells.ret (by simp only [resK, get_set_of, Nat.reduceEqDiff, ↓reduceIte, tupR]; rfl) ⟨(numM_no (.inr (.inr (.inl ⟨by rw [hhd, h48], hg⟩)))).symm, rfl⟩
      · have hg' : ¬ (s.length : Int) > 1 := by omega
        simp (disch := omega) only [seqO_eq, thenO_nor, gtO_some, bndO_ok, get_set_of, cndX_tmp, ifB_true, ifB_false, reduceCtorEq, ↓reduceIte, oBin_eql, oBin_gtr, oBin_str_eql, oLenK_str, decide_true, decide_false, Tryd35, Tryr35_0, Tryr35_1, Tryr35_2, h0, h1', ix0, eq_true h48', hg']
        exact goal fun q => hg q.2
    · have h48' : ¬ ((s[0] : Nat) : Int) = 48 := by omega
      simp (disch := omega) only [seqO_eq, thenO_nor, gtO_some, bndO_ok, get_set_of, cndX_tmp, ifB_false, reduceCtorEq, ↓reduceIte, oBin_eql, oBin_gtr, oBin_str_eql, oLenK_str, decide_false, Tryd35, Tryr35_0, Tryr35_1, Tryr35_2, h0, h1', ix0, h48']
      exact goal fun q => h48 (by have := q.1; rw [hhd] at this; exact Option.some.inj this)
  obtain ⟨r, h', e, rfl, rfl⟩ := this
  exact e
end Go.Proofs.Ytgnfkfmhjgbhhaa

noncomputable section
namespace Go.Vm
variable {h : Hp}
theorem oExtract_3 (x y z u l : V) : oExtract 3 (.tuple (.cons x (.cons y (.cons z (.cons u l))))) h = .ok u h := (rfl)
end Go.Vm
namespace Go.Proofs.Ytgnfkfmhjgbhhaa
open Go Go.Proofs Go.Vm Go.Ln
set_option linter.unusedVariables false
set_option maxRecDepth 100000
set_option linter.unusedSimpArgs false
def four (a b c d : V) : V := .tuple (.cons a (.cons b (.cons c (.cons d .nil))))
def markV (t : List Nat) : V := match markerM t with
  | some (a, n, p) => four (.str a) (.int .i64 (n : Int)) (.bool p) (.bool true)
  | none => four (.str t) (.int .i64 0) (.bool false) (.bool false)
theorem marker_ok {t : List Nat} (hl : t.length < 1000000000) (h : Hp) : TryF27 [.str t] h = .ok (markV t) h := by
  rw [TryF27_eq]
  have : Tells Try.prog [.tmp 2, .tmp 3, .tmp 4, .tmp 5] (fun r h' => r = markV t ∧ h' = h) (Tryd27 (T.set (some (.str t)) (Pos.of 0) T.nil) h) := by
    have c1 := cut_ok (s := t) (c := 125) (by omega) h
    by_cases h1 : t.getLast? = some 125
    · rw [cutV, if_pos h1, two] at c1
      have c2 := last_ok (s := t.dropLast) (c := 123) (by rw [List.length_dropLast]; omega) h
      replace c2 : TryF34 [.str t.dropLast, .int .u8 123] h = .ok (.int .i64 (lastV 123 t.dropLast)) h := c2
      rcases lastM_eq 123 t.dropLast with ⟨hn, -⟩ | ⟨i, hi, hgi, -⟩
      · rw [lastV, hn] at c2
        simp (disch := omega) only [seqO_eq, thenO_nor, thenO_ret, gtO_some, bndO_ok, get_set_of, cndX_tmp, ifB_true, ifB_false, Nat.reduceEqDiff, reduceCtorEq, ↓reduceIte, oBin_lss, oUn_not, oExtract_0, oExtract_1, Bool.not_true, decide_true, Tryd27, Tryr27_0, Tryr27_1, c1, Tryr27_2, c2, Tryr27_3, Tryr27_4, show ((-1 : Int) < 0) by omega]
        refine Tells.ret (by simp only [resK, get_set_of, Nat.reduceEqDiff, ↓reduceIte, tupR]; rfl) ⟨?_, rfl⟩
        unfold markV markerM; rw [if_pos h1, hn]; rfl
      · rw [lastV, hi] at c2
        have hlt : i < t.dropLast.length := (List.getElem?_eq_some_iff.1 hgi).1
        have hdl : t.dropLast.length < 1000000000 := by rw [List.length_dropLast]; omega
        have hnn : ¬ ((i : Int) < 0) := by omega
        have s1 : ∀ h, oSliceStr (.str t.dropLast) (some (.int .i64 ((i : Int) + 1))) none h = .ok (.str (t.dropLast.drop (i + 1))) h := fun h => oSliceStr_from (m := i + 1) (by omega)
        have s2 : ∀ h, oSliceStr (.str t.dropLast) none (some (.int .i64 (i : Int))) h = .ok (.str (t.dropLast.take i)) h := fun h => oSliceStr_to (by omega)
        have ht : t.dropLast.take i = t.take i := by
          rw [List.dropLast_eq_take, List.take_take, Nat.min_eq_left]; rw [List.length_dropLast] at hlt; omega
        have hld : (t.dropLast.drop (i + 1)).length < 1000000000 := by rw [List.length_drop]; omega
        have c3 := cut_ok (s := t.dropLast.drop (i + 1)) (c := 43) (by omega) h
        by_cases h43 : (t.dropLast.drop (i + 1)).getLast? = some 43
        · rw [cutV, if_pos h43, two] at c3
          have c4 := num_ok (s := (t.dropLast.drop (i + 1)).dropLast) (by rw [List.length_dropLast]; omega) h
          cases hm : numM (t.dropLast.drop (i + 1)).dropLast with
          | none =>
            rw [numV, hm] at c4
            simp (disch := omega) only [seqO_eq, thenO_nor, thenO_ret, gtO_some, bndO_ok, get_set_of, cndX_tmp, ifB_true, ifB_false, Nat.reduceEqDiff, reduceCtorEq, ↓reduceIte, oBin_add, oBin_lss, oUn_not, oExtract_0, oExtract_1, Bool.not_true, Bool.not_false, decide_false, Tryd27, Tryr27_0, Tryr27_1, c1, Tryr27_2, c2, Tryr27_3, hnn, Tryr27_5, s1, c3, Tryr27_6, c4, two, Tryr27_7, Tryr27_8]
            refine Tells.ret (by simp only [resK, get_set_of, Nat.reduceEqDiff, ↓reduceIte, tupR]; rfl) ⟨?_, rfl⟩
            unfold markV markerM; rw [if_pos h1, hi]; simp only []; rw [if_pos h43, hm]; rfl
          | some n =>
            rw [numV, hm] at c4
            simp (disch := omega) only [seqO_eq, thenO_nor, gtO_some, bndO_ok, get_set_of, cndX_tmp, ifB_false, Nat.reduceEqDiff, reduceCtorEq, ↓reduceIte, oBin_add, oBin_lss, oUn_not, oExtract_0, oExtract_1, Bool.not_true, decide_false, Tryd27, Tryr27_0, Tryr27_1, c1, Tryr27_2, c2, Tryr27_3, hnn, Tryr27_5, s1, c3, Tryr27_6, c4, two, Tryr27_7, Tryr27_9, s2]
            refine Tells.ret (by simp only [resK, get_set_of, Nat.reduceEqDiff, ↓reduceIte, tupR]; rfl) ⟨?_, rfl⟩
            unfold markV markerM; rw [if_pos h1, hi]; simp only []; rw [if_pos h43, hm, ht]; rfl
        · rw [cutV, if_neg h43, two] at c3
          have c4 := num_ok (s := t.dropLast.drop (i + 1)) hld h
          cases hm : numM (t.dropLast.drop (i + 1)) with
          | none =>
            rw [numV, hm] at c4
            simp (disch := omega) only [seqO_eq, thenO_nor, thenO_ret, gtO_some, bndO_ok, get_set_of, cndX_tmp, ifB_true, ifB_false, Nat.reduceEqDiff, reduceCtorEq, ↓reduceIte, oBin_add, oBin_lss, oUn_not, oExtract_0, oExtract_1, Bool.not_true, Bool.not_false, decide_false, Tryd27, Tryr27_0, Tryr27_1, c1, Tryr27_2, c2, Tryr27_3, hnn, Tryr27_5, s1, c3, Tryr27_6, c4, two, Tryr27_7, Tryr27_8]
            refine Tells.ret (by simp only [resK, get_set_of, Nat.reduceEqDiff, ↓reduceIte, tupR]; rfl) ⟨?_, rfl⟩
            unfold markV markerM; rw [if_pos h1, hi]; simp only []; rw [if_neg h43, hm]; rfl
          | some n =>
            rw [numV, hm] at c4
            simp (disch := omega) only [seqO_eq, thenO_nor, gtO_some, bndO_ok, get_set_of, cndX_tmp, ifB_false, Nat.reduceEqDiff, reduceCtorEq, ↓reduceIte, oBin_add, oBin_lss, oUn_not, oExtract_0, oExtract_1, Bool.not_true, decide_false, Tryd27, Tryr27_0, Tryr27_1, c1, Tryr27_2, c2, Tryr27_3, hnn, Tryr27_5, s1, c3, Tryr27_6, c4, two, Tryr27_7, Tryr27_9, s2]
            refine Tells.ret (by simp only [resK, get_set_of, Nat.reduceEqDiff, ↓reduceIte, tupR]; rfl) ⟨?_, rfl⟩
            unfold markV markerM; rw [if_pos h1, hi]; simp only []; rw [if_neg h43, hm, ht]; rfl
    · rw [cutV, if_neg h1, two] at c1
      have c2 := last_ok (s := t) (c := 123) hl h
      replace c2 : TryF34 [.str t, .int .u8 123] h = .ok (.int .i64 (lastV 123 t)) h := c2
      simp (disch := omega) only [seqO_eq, thenO_nor, thenO_ret, gtO_some, bndO_ok, get_set_of, cndX_tmp, ifB_true, Nat.reduceEqDiff, reduceCtorEq, ↓reduceIte, oBin_lss, oUn_not, oExtract_0, oExtract_1, Bool.not_false, Tryd27, Tryr27_0, Tryr27_1, c1, Tryr27_2, c2, Tryr27_3, Tryr27_4]
      refine Tells.ret (by simp only [resK, get_set_of, Nat.reduceEqDiff, ↓reduceIte, tupR]; rfl) ⟨?_, rfl⟩
      unfold markV markerM; rw [if_neg h1]; rfl
  obtain ⟨r, h', e, rfl, rfl⟩ := this
  exact e
end Go.Proofs.Ytgnfkfmhjgbhhaa

noncomputable section
namespace Go.Vm
variable {h : Hp}
theorem oBuild_p {u v : V} (hu : u.cells = [u] ∧ notTuple u = true) (hv : v.cells = [v] ∧ notTuple v = true) : oBuild [.nils, .nils, .int .i64 0, .int .i64 0] [(0, 1, u), (1, 1, v)] h = .ok (.agg (.cons u (.cons v (.cons (.int .i64 0) (.cons (.int .i64 0) .nil))))) h := by
  unfold oBuild
  simp only [fillP, hu.1, hu.2, hv.1, hv.2]
  rfl
theorem oBox_agg (l : V) : oBox (.agg l) h = .ok (.ptr h.next 0) (h.new (.cells true l.list)) := (rfl)
end Go.Vm
namespace Go.Proofs.Ytgnfkfmhjgbhhaa
open Go Go.Proofs Go.Vm Go.Ln
set_option linter.unusedVariables false
set_option maxRecDepth 100000
set_option linter.unusedSimpArgs false
theorem placesM_cons (f : Bool) (t : List Nat) (ts : List (List Nat)) (l : List Nat) (ls : List (List Nat)) : placesM f (t :: ts) (l :: ls) = ((match t.getLast? with | none => f | some c => decide (c = 32 ∨ c = 40)) && placesM false ts ls) := (rfl)
def LineQ (texts lits : List (List Nat)) (h : Hp) (r : V) (h' : Hp) : Prop :=
  Ch (fun _ => False) h h' ∧ ((parseM texts lits = none ∧ ∃ x, r = two x (.bool false)) ∨ ∃ ws v, parseM texts lits = some ws ∧ r = two v (.bool true) ∧ WRow (fun j => h.next.nat ≤ j.nat) h' v ws)
theorem linewords_ok {texts lits : List (List Nat)} {h : Hp} {vt vl : V} (ht : Sl h.next.nat h 1 vt texts.length (txs texts)) (hl : Sl h.next.nat h 1 vl lits.length (txs lits)) (hn : texts.length = lits.length + 1)
    (small : texts.length < 1000000000 ∧ ∀ t ∈ texts, t.length < 1000000000 ∧ ∀ c ∈ t, c < 256) (hsz : ∀ t ts, texts = t :: ts → St.size ⟨t, lits.zip ts⟩ < 1000000000) :
    ∃ r h', TryF28 [vt, vl] h = .ok r h' ∧ LineQ texts lits h r h' := by
  obtain ⟨t0, ts, rfl⟩ : ∃ t ts, texts = t :: ts := by cases texts with | nil => simp at hn | cons t ts => exact ⟨t, ts, rfl⟩
  have hz0 := hsz t0 ts rfl
  rw [TryF28_eq]
  show Tells Try.prog _ (LineQ (t0 :: ts) lits h) _
  simp (disch := omega) only [seqO_eq, thenO_nor, gtO_some, bndO_ok, get_set_of, blkO_eq, Nat.reduceEqDiff, ↓reduceIte, Tryd28, Tryr28_0, Tryr28_1, hl.length]
  refine Oc.then (loop_rule (n := lits.length) (fun m fr g => ∃ k : Nat, fr.get (Pos.of 0) = some vt ∧ fr.get (Pos.of 1) = some vl ∧ fr.get (Pos.of 12) = some (.int .i64 (lits.length : Int)) ∧ fr.get (Pos.of 13) = some (.int .i64 (k : Int)) ∧ k + m = lits.length ∧
      placesM true (t0 :: ts) lits = placesM (decide (k = 0)) ((t0 :: ts).drop k) (lits.drop k) ∧ g = h)
    (A := fun fr g => fr.get (Pos.of 0) = some vt ∧ fr.get (Pos.of 1) = some vl ∧ placesM true (t0 :: ts) lits = true ∧ g = h) (B := fun fr g => fr.get (Pos.of 4) = some .nils ∧ fr.get (Pos.of 5) = some (.bool false) ∧ placesM true (t0 :: ts) lits = false ∧ g = h) (by rw [lf_eq]; omega) ?_ ?_) ?_ ?_
  · exact ⟨0, by simp only [get_set_of, Nat.zero_ne_one, reduceCtorEq, ↓reduceIte], by simp only [get_set_of, Nat.reduceEqDiff, ↓reduceIte], by simp only [get_set_of, Nat.reduceEqDiff, ↓reduceIte], by simp only [get_set_of, ↓reduceIte]; rfl, by omega, rfl, rfl⟩
  · rintro m fr g ⟨k, f0, f1, f12, f13, hk, hp, rfl⟩
    by_cases hlt : k < lits.length
    · have hlt' : (k : Int) < (lits.length : Int) := by omega
      have hkt : k < (t0 :: ts).length := by omega
      obtain ⟨j, q, x, hx, e1, -, e2⟩ := ht.at1 hkt
      rw [txs_get, List.getElem?_eq_getElem hkt] at hx
      cases hx
      rw [List.drop_eq_getElem_cons hkt, List.drop_eq_getElem_cons hlt, placesM_cons] at hp
      have hsm := small.2 _ (List.getElem_mem hkt)
      obtain ⟨t, et⟩ : ∃ t, t = (t0 :: ts)[k] := ⟨_, rfl⟩
      rw [← et] at hp hsm e2
      have key : ∀ z : Bool, (match t.getLast? with | none => decide (k = 0) | some c => decide (c = 32 ∨ c = 40)) = z → (∀ (fr : F) (g' : Hp), fr.get (Pos.of 6) = some (.int .i64 (k : Int)) → fr.get (Pos.of 7) = some (.str t) → Tryr28_5 fr g' = .nor (T.set (some (.bool (!z))) (Pos.of 45) fr) g') := by
        intro z hz fr g' f6 f7
        by_cases ht0 : t = []
        · subst ht0
          have hz' : decide (k = 0) = z := hz
          by_cases hk0 : k = 0
          · have : ¬ (k : Int) > 0 := by omega
            rw [decide_eq_true hk0] at hz'
            subst hz'
            simp (disch := omega) only [gtO_some, bndO_ok, ifB_true, ifB_false, oBin_sub, oBin_gtr, Bool.not_true, oBin_str_eql, oBin_str_neq, oLenK_str, decide_true, decide_false, ne_eq, not_true, Tryr28_5, f6, f7, this]
          · have : (k : Int) > 0 := by omega
            rw [decide_eq_false hk0] at hz'
            subst hz'
            simp (disch := omega) only [gtO_some, bndO_ok, ifB_true, ifB_false, oBin_sub, oBin_gtr, Bool.not_false, oBin_str_eql, oBin_str_neq, oLenK_str, decide_true, decide_false, ne_eq, not_true, Tryr28_5, f6, f7, this]
        · have hlast := List.getLast?_eq_some_getLast ht0
          rw [hlast] at hz
          simp only [] at hz
          have hpos : 0 < t.length := List.length_pos_iff.2 ht0
          have ix : ∀ h, oIdxStr (.str t) (.int .i64 ((t.length : Int) - 1)) h = .ok (.int .u8 (t.getLast ht0 : Int)) h := fun h => by
            rw [show (t.length : Int) - 1 = ((t.length - 1 : Nat) : Int) by omega]
            exact oIdxStr_ok (by rw [← List.getLast?_eq_getElem?]; exact hlast)
          generalize t.getLast ht0 = c at hz ix
          have tl := hsm.1
          by_cases h32 : c = 32
          · have h32' : (c : Int) = 32 := by omega
            rw [decide_eq_true (.inl h32)] at hz
            subst hz
            simp (disch := omega) only [gtO_some, bndO_ok, ifB_true, ifB_false, oBin_sub, oBin_neq, oBin_gtr, Bool.not_true, oBin_str_eql, oBin_str_neq, oLenK_str, decide_true, decide_false, ne_eq, not_true, not_false_eq_true, Tryr28_5, f6, f7, ht0, ix, eq_true h32']
          · have h32' : ¬ (c : Int) = 32 := by omega
            by_cases h40 : c = 40
            · have h40' : (c : Int) = 40 := by omega
              rw [decide_eq_true (.inr h40)] at hz
              subst hz
              simp (disch := omega) only [gtO_some, bndO_ok, ifB_true, ifB_false, oBin_sub, oBin_neq, oBin_gtr, Bool.not_true, oBin_str_eql, oBin_str_neq, oLenK_str, decide_true, decide_false, ne_eq, not_true, not_false_eq_true, Tryr28_5, f6, f7, ht0, ix, h32', eq_true h40']
            · have h40' : ¬ (c : Int) = 40 := by omega
              rw [decide_eq_false (by omega)] at hz
              subst hz
              simp (disch := omega) only [gtO_some, bndO_ok, ifB_true, ifB_false, oBin_sub, oBin_neq, oBin_gtr, Bool.not_false, oBin_str_eql, oBin_str_neq, oLenK_str, decide_true, decide_false, ne_eq, not_false_eq_true, Tryr28_5, f6, f7, ht0, ix, h32', h40']
      cases hz : (match t.getLast? with | none => decide (k = 0) | some c => decide (c = 32 ∨ c = 40)) with
      | true =>
        rw [hz, Bool.true_and] at hp
        have k1 := key true hz
        simp (disch := omega) only [seqO_eq, thenO_nor, gtO_some, bndO_ok, get_set_of, cndX_tmp, ifB_true, blkO_eq, Nat.reduceEqDiff, reduceCtorEq, ↓reduceIte, oBin_lss, decide_true, Tryb28_2, Tryr28_2, Tryr28_3, Tryr28_4, f0, f12, f13, hlt', e1, e2 g rfl]
        rw [k1 _ _ (by simp only [get_set_of, Nat.reduceEqDiff, ↓reduceIte]) (by simp only [get_set_of, ↓reduceIte])]
        simp (disch := omega) only [seqO_eq, thenO_nor, gtO_some, bndO_ok, get_set_of, cndX_tmp, ifB_false, blkX_nor, Nat.reduceEqDiff, ↓reduceIte, oBin_add, Bool.not_true, Tryr28_7, f13]
        exact ⟨m - 1, by omega, k + 1, by simp only [get_set_of, reduceCtorEq, ↓reduceIte, f0], by simp only [get_set_of, Nat.reduceEqDiff, ↓reduceIte, f1], by simp only [get_set_of, Nat.reduceEqDiff, ↓reduceIte, f12], by simp only [get_set_of, ↓reduceIte]; rfl, by omega, hp, rfl⟩
      | false =>
        rw [hz, Bool.false_and] at hp
        have k1 := key false hz
        simp (disch := omega) only [seqO_eq, thenO_nor, gtO_some, bndO_ok, get_set_of, cndX_tmp, ifB_true, blkO_eq, Nat.reduceEqDiff, reduceCtorEq, ↓reduceIte, oBin_lss, decide_true, Tryb28_2, Tryr28_2, Tryr28_3, Tryr28_4, f0, f12, f13, hlt', e1, e2 g rfl]
        rw [k1 _ _ (by simp only [get_set_of, Nat.reduceEqDiff, ↓reduceIte]) (by simp only [get_set_of, ↓reduceIte])]
        simp (disch := omega) only [seqO_eq, thenO_nor, thenO_ret, gtO_some, get_set_of, cndX_tmp, ifB_true, blkX_ret, ↓reduceIte, Bool.not_false, Tryr28_6]
        exact ⟨by simp only [get_set_of, Nat.reduceEqDiff, ↓reduceIte], by simp only [get_set_of, ↓reduceIte], hp, rfl⟩
    · have hlt' : ¬ (k : Int) < (lits.length : Int) := by omega
      simp (disch := omega) only [seqO_eq, thenO_nor, thenO_ex, gtO_some, bndO_ok, get_set_of, cndX_tmp, ifB_false, ↓reduceIte, oBin_lss, decide_false, Tryb28_2, Tryr28_2, f12, f13, hlt']
      have : lits.drop k = [] := List.drop_eq_nil_of_le (by omega)
      rw [this] at hp
      refine ⟨rfl, by simp only [get_set_of, reduceCtorEq, ↓reduceIte, f0], by simp only [get_set_of, Nat.reduceEqDiff, ↓reduceIte, f1], ?_, rfl⟩
      rw [hp]; unfold placesM; cases (t0 :: ts).drop k <;> rfl
  · rintro fr g ⟨f0, f1, hp, rfl⟩
    obtain ⟨g1, e1⟩ : ∃ g1, g1 = g.new (.cells true [vt, vl, .int .i64 0, .int .i64 0]) := ⟨_, rfl⟩
    have c1 : Ch (fun _ => False) g g1 := by rw [e1]; exact Ch.new _ _ _
    have n1 : g1.next.nat = g.next.nat + 1 := by rw [e1]; exact new_next_nat _ _
    have p1 : PSt g.next.nat (t0 :: ts) lits g1 g.next ⟨t0, lits.zip ts⟩ :=
      ⟨Nat.le_refl _, by omega, ⟨vt, vl, 0, 0, t0, by rw [e1]; exact new_self _ _, ht.ch c1 (Nat.le_refl _) fun _ _ q => q, hl.ch c1 (Nat.le_refl _) fun _ _ q => q, hn, rfl, Nat.zero_le _, rfl, rfl⟩, small⟩
    obtain ⟨r, g2, e36, c2, hq⟩ := words_ok (word_ok (b := g.next.nat) (texts := t0 :: ts) (lits := lits) (n := 8) (m := 20) (deep := 0) (by omega) (by omega) (by omega)) p1 hz0
    replace e36 : TryF36r [.ptr g.next 0, .int .i64 0] g1 = .ok r g2 := e36
    have c02 : Ch (fun _ => False) g g2 := c1.trans c2 fun j hj q => by rw [q] at hj; omega
    have bx : ∀ l, oBox (.agg (.cons vt (.cons vl (.cons (.int .i64 0) (.cons (.int .i64 0) .nil))))) g = .ok l g1 ↔ l = .ptr g.next 0 := fun l => by rw [oBox_agg, e1]; exact ⟨fun e => by cases e; rfl, fun e => by rw [e]; rfl⟩
    have bx' := (bx _).2 rfl
    have hpm : parseM (t0 :: ts) lits = (match loopW (wordM 8) (St.size ⟨t0, lits.zip ts⟩ + 1) ⟨t0, lits.zip ts⟩ with
      | some (ws, st) => if st.cur = [] ∧ st.rest = [] then some ws else none
      | none => none) := by unfold parseM; simp only []; rw [if_pos hp]; rfl
    rcases hq with ⟨hno, rfl⟩ | ⟨ws, st, v, hm, rfl, p2, wr⟩
    · rw [hno] at hpm
      simp (disch := omega) only [seqO_eq, thenO_nor, gtO_some, bndO_ok, get_set_of, ifB_false, Nat.reduceEqDiff, ↓reduceIte, oExtract_0, oExtract_1, oFieldAddr_eq, bumpH_zero, oNilCheck_ptr, Nat.zero_add, bumpH_zero, Tryr28_8, Tryr28_9, Tryr28_10, f0, f1, oBuild_p ht.cell hl.cell, bx', e36, two]
      exact Tells.ret (by simp only [resK, get_set_of, Nat.reduceEqDiff, ↓reduceIte, tupR]; rfl) ⟨c02, .inl ⟨hpm, .nils, rfl⟩⟩
    · rw [hm] at hpm
      simp only [] at hpm
      have er := rest_ok p2
      obtain ⟨vt', vl', piece, pos, t, hg, ht', hl', hn', hpc, hpos, hc, hr⟩ := p2.is
      have L2 : oLoad1 (.ptr g.next 2) g2 = .ok (.int .i64 (piece : Int)) g2 := ld_get hg 2
      have hpl : piece < (t0 :: ts).length := (List.getElem?_eq_some_iff.1 hpc).1
      have hrest : st.rest = [] ↔ (piece : Int) = (lits.length : Int) := by
        rw [hr, ← List.length_eq_zero_iff, List.length_zip, List.length_drop, List.length_drop]
        omega
      have hlc : oLenK 2 vl g2 = .ok (.int .i64 (lits.length : Int)) g2 := hl.length
      by_cases h0 : st.cur = []
      · by_cases h1 : st.rest = []
        · rw [if_pos ⟨h0, h1⟩] at hpm
          simp (disch := omega) only [seqO_eq, thenO_nor, gtO_some, bndO_ok, get_set_of, ifB_true, Nat.reduceEqDiff, ↓reduceIte, oBin_eql, oExtract_0, oExtract_1, oFieldAddr_eq, bumpH_zero, oBin_str_eql, oNilCheck_ptr, Nat.zero_add, bumpH_zero, decide_true, Tryr28_8, Tryr28_9, Tryr28_10, f0, f1, oBuild_p ht.cell hl.cell, bx', e36, two, er, h0, L2, hlc, eq_true (hrest.1 h1)]
          refine Tells.ret (by simp only [resK, get_set_of, Nat.reduceEqDiff, ↓reduceIte, tupR]; rfl) ⟨c02, .inr ⟨ws, v, hpm, rfl, WRow.ch wr (Ch.refl (fun _ => False) _) fun j hj q => ⟨by omega, fun e => e⟩⟩⟩
        · rw [if_neg fun q => h1 q.2] at hpm
          have h1' : ¬ (piece : Int) = (lits.length : Int) := fun q => h1 (hrest.2 q)
          simp (disch := omega) only [seqO_eq, thenO_nor, gtO_some, bndO_ok, get_set_of, ifB_true, Nat.reduceEqDiff, ↓reduceIte, oBin_eql, oExtract_0, oExtract_1, oFieldAddr_eq, bumpH_zero, oBin_str_eql, oNilCheck_ptr, Nat.zero_add, bumpH_zero, decide_true, decide_false, Tryr28_8, Tryr28_9, Tryr28_10, f0, f1, oBuild_p ht.cell hl.cell, bx', e36, two, er, h0, L2, hlc, h1']
          exact Tells.ret (by simp only [resK, get_set_of, Nat.reduceEqDiff, ↓reduceIte, tupR]; rfl) ⟨c02, .inl ⟨hpm, v, rfl⟩⟩
      · rw [if_neg fun q => h0 q.1] at hpm
        simp (disch := omega) only [seqO_eq, thenO_nor, gtO_some, bndO_ok, get_set_of, ifB_true, ifB_false, Nat.reduceEqDiff, ↓reduceIte, oExtract_0, oExtract_1, oFieldAddr_eq, bumpH_zero, oBin_str_eql, oNilCheck_ptr, Nat.zero_add, bumpH_zero, decide_false, Tryr28_8, Tryr28_9, Tryr28_10, f0, f1, oBuild_p ht.cell hl.cell, bx', e36, two, er, h0]
        exact Tells.ret (by simp only [resK, get_set_of, Nat.reduceEqDiff, ↓reduceIte, tupR]; rfl) ⟨c02, .inl ⟨hpm, v, rfl⟩⟩
  · rintro fr g ⟨f4, f5, hp, rfl⟩
    refine Tells.ret (by simp only [resK, f4, f5, tupR]; rfl) ⟨Ch.refl _ _, .inl ⟨?_, .nils, rfl⟩⟩
    unfold parseM; simp only []; rw [hp]; rfl
end Go.Proofs.Ytgnfkfmhjgbhhaa

/- The value machine, part 34: parts of rows that are read. -/
namespace Go.Vm
noncomputable section
variable {h h' : Hp} {sz n b : Nat} {v : V} {cs : List V}
def capOk (sz : Nat) (v : V) : Prop := ∀ i o n c, v = .slice i o n c → (match c with | .kn k => n ≤ k | .un u => u = sz)
theorem moved_le {sz o l m k : Nat} (hl : l ≤ k) (hk : k ≤ m) : moved sz o l m = o + l * sz ∨ (moved sz o l m = o ∧ k = l) := by
  unfold moved
  cases hb : Nat.beq m l with
  | true => exact .inr ⟨rfl, by have := Nat.eq_of_beq_eq_true hb; omega⟩
  | false => exact .inl rfl
theorem Sl.cut (s : Sl b h sz v n cs) (hc : capOk sz v) (hsz : 0 < sz) {lo hi : Nat} (h1 : lo ≤ hi) (h2 : hi ≤ n) (h3 : v ≠ .nils ∧ v ≠ .emp) :
    ∃ v', (∀ h', sliceX sz v (some (.int .i64 (lo : Int))) (some (.int .i64 (hi : Int))) none h' = .ok v' h') ∧ Sl b h sz v' (hi - lo) ((cs.drop (lo * sz)).take ((hi - lo) * sz)) ∧ capOk sz v' ∧ ∀ i, idOf v' = some i → idOf v = some i := by
  have hl := s.len
  have hlen : ((cs.drop (lo * sz)).take ((hi - lo) * sz)).length = (hi - lo) * sz := by
    rw [List.length_take, List.length_drop, hl, ← Nat.sub_mul]
    exact Nat.min_eq_left (Nat.mul_le_mul_right _ (by omega))
  have hget : ∀ (all : List V) (o : Nat), (∀ k, k < n * sz → all[o + k]? = cs[k]?) → ∀ k, k < (hi - lo) * sz → all[o + lo * sz + k]? = ((cs.drop (lo * sz)).take ((hi - lo) * sz))[k]? := fun all o ha k hk => by
    rw [List.getElem?_take, if_pos hk, List.getElem?_drop, Nat.add_assoc]
    apply ha
    have : lo * sz + (hi - lo) * sz ≤ n * sz := by rw [← Nat.add_mul]; exact Nat.mul_le_mul_right _ (by omega)
    omega
  rcases s.is with ⟨_, h0 | h0⟩ | ⟨i, o, c, wr, all, rfl, hi', hg, ha⟩
  · exact absurd h0 h3.1
  · exact absurd h0 h3.2
  · have hcap := hc i o n c rfl
    cases c with
    | kn k =>
      have hk : n ≤ k := hcap
      have e1 : Nat.ble k k = true := Nat.ble_eq_true_of_le (Nat.le_refl _)
      have e2 : Nat.ble hi k = true := Nat.ble_eq_true_of_le (by omega)
      have e3 : Nat.ble lo hi = true := Nat.ble_eq_true_of_le h1
      refine ⟨.slice i (moved sz o lo k) (hi - lo) (.kn (k - lo)), fun h' => ?_, ⟨hlen, ?_⟩, fun i' o' n' c' e => by cases e; show hi - lo ≤ k - lo; omega, fun j hj => hj⟩
      · show (match Nat.ble k k, Nat.ble hi k, Nat.ble lo hi with
          | true, true, true => forceNat (moved sz o lo k) fun q => forceNat (hi - lo) fun n => R.ok (V.slice i q n (.kn (k - lo))) h'
          | _, _, _ => .bad) = _
        rw [e1, e2, e3]
        simp only [forceNat_eq]
      · refine .inr ⟨i, _, _, wr, all, rfl, hi', hg, fun q hq => ?_⟩
        rcases moved_le (sz := sz) (o := o) (m := k) h1 (by omega) with e | ⟨_, e⟩
        · rw [e]; exact hget all o ha q hq
        · rw [e, Nat.sub_self, Nat.zero_mul] at hq; omega
    | un u =>
      have hu : u = sz := hcap
      subst hu
      have e2 : Nat.ble hi n = true := Nat.ble_eq_true_of_le h2
      have e3 : Nat.ble lo hi = true := Nat.ble_eq_true_of_le h1
      cases lo with
      | zero =>
        refine ⟨.slice i o hi (.un u), fun h' => ?_, ⟨hlen, .inr ⟨i, o, .un u, wr, all, rfl, hi', hg, fun q hq => ?_⟩⟩, fun i' o' n' c' e => (by cases e; rfl), fun j hj => hj⟩
        · show (match Nat.ble hi n, Nat.ble 0 hi, Nat.beq u u with
            | true, true, true => R.ok (V.slice i o hi (.un u)) h'
            | _, _, _ => R.bad) = _
          rw [e2, e3, Nat.beq_refl]
        · have := hget all o ha q hq
          rw [show o + 0 * u + q = o + q by omega] at this
          exact this
      | succ l =>
        have es : ∀ h', sliceX u (.slice i o n (.un u)) (some (.int .i64 ((l + 1 : Nat) : Int))) (some (.int .i64 (hi : Int))) none h' = (match Nat.blt (l + 1) n with
            | true => forceNat (o + (l + 1) * u) fun q => forceNat (hi - (l + 1)) fun n => R.ok (V.slice i q n (.un u)) h'
            | false => .ok .emp h') := fun h' => by
          show (match Nat.ble hi n, Nat.ble (l + 1) hi, Nat.beq u u with
            | true, true, true => (match Nat.blt (l + 1) n with
              | true => forceNat (o + (l + 1) * u) fun q => forceNat (hi - (l + 1)) fun n => R.ok (V.slice i q n (.un u)) h'
              | false => .ok .emp h')
            | _, _, _ => R.bad) = _
          rw [e2, e3, Nat.beq_refl]
        by_cases hlt : l + 1 < n
        · have e4 : Nat.blt (l + 1) n = true := by rw [Nat.blt_eq]; exact hlt
          refine ⟨.slice i (o + (l + 1) * u) (hi - (l + 1)) (.un u), fun h' => by rw [es]; simp only [e4, forceNat_eq], ⟨hlen, .inr ⟨i, _, _, wr, all, rfl, hi', hg, fun q hq => hget all o ha q hq⟩⟩, fun i' o' n' c' e => (by cases e; rfl), fun j hj => hj⟩
        · have e4 : Nat.blt (l + 1) n = false := by
            cases hb : Nat.blt (l + 1) n with
            | false => rfl
            | true => rw [Nat.blt_eq] at hb; omega
          have hz : hi - (l + 1) = 0 := by omega
          exact ⟨.emp, fun h' => by rw [es]; simp only [e4], ⟨hlen, .inl ⟨hz, .inr rfl⟩⟩, fun i' o' n' c' e => (by cases e), fun j hj => (by cases hj)⟩
end
end Go.Vm
namespace Go.Vm
noncomputable section
variable {h h' : Hp} {sz n b : Nat} {v : V} {cs : List V}
/-- from a place on -/
theorem Sl.from (s : Sl b h sz v n cs) (hc : capOk sz v) (hsz : 0 < sz) {lo : Nat} (h1 : lo ≤ n) :
    ∃ v', (∀ h', oSlice sz v (some (.int .i64 (lo : Int))) none none h' = .ok v' h') ∧ Sl b h sz v' (n - lo) (cs.drop (lo * sz)) ∧ capOk sz v' ∧ ∀ i, idOf v' = some i → idOf v = some i := by
  by_cases h3 : v = .nils ∨ v = .emp
  · have hn : n = 0 := by
      rcases s.is with ⟨h0, _⟩ | ⟨i, o, c, wr, all, e, _⟩
      · exact h0
      · rcases h3 with h3 | h3 <;> rw [h3] at e <;> cases e
    subst hn
    have hlo : lo = 0 := by omega
    subst hlo
    have hcs : cs = [] := List.length_eq_zero_iff.1 (by rw [s.len]; simp)
    subst hcs
    exact ⟨v, fun h' => by rcases h3 with rfl | rfl <;> rfl, by simpa using s, hc, fun _ hi => hi⟩
  · obtain ⟨v', e1, e2, e3, e4⟩ := s.cut hc hsz (hi := n) h1 (Nat.le_refl _) ⟨fun q => h3 (.inl q), fun q => h3 (.inr q)⟩
    refine ⟨v', fun h' => ?_, ?_, e3, e4⟩
    · rw [← e1 h']
      rcases s.is with ⟨_, h0⟩ | ⟨i, o, c, wr, all, rfl, _⟩
      · exact absurd h0 h3
      · rfl
    · have hl : (cs.drop (lo * sz)).length ≤ (n - lo) * sz := by rw [List.length_drop, s.len, ← Nat.sub_mul]; exact Nat.le_refl _
      rw [List.take_of_length_le hl] at e2
      exact e2
/-- up to a place -/
theorem Sl.upto (s : Sl b h sz v n cs) (hc : capOk sz v) (hsz : 0 < sz) {hi : Nat} (h1 : hi ≤ n) :
    ∃ v', (∀ h', oSlice sz v none (some (.int .i64 (hi : Int))) none h' = .ok v' h') ∧ Sl b h sz v' hi (cs.take (hi * sz)) ∧ capOk sz v' ∧ ∀ i, idOf v' = some i → idOf v = some i := by
  by_cases h3 : v = .nils ∨ v = .emp
  · have hn : n = 0 := by
      rcases s.is with ⟨h0, _⟩ | ⟨i, o, c, wr, all, e, _⟩
      · exact h0
      · rcases h3 with h3 | h3 <;> rw [h3] at e <;> cases e
    subst hn
    have hhi : hi = 0 := by omega
    subst hhi
    have hcs : cs = [] := List.length_eq_zero_iff.1 (by rw [s.len]; simp)
    subst hcs
    exact ⟨v, fun h' => by rcases h3 with rfl | rfl <;> rfl, by simpa using s, hc, fun _ hi => hi⟩
  · obtain ⟨v', e1, e2, e3, e4⟩ := s.cut hc hsz (lo := 0) (Nat.zero_le _) h1 ⟨fun q => h3 (.inl q), fun q => h3 (.inr q)⟩
    refine ⟨v', fun h' => ?_, ?_, e3, e4⟩
    · rw [← e1 h']
      rcases s.is with ⟨_, h0⟩ | ⟨i, o, c, wr, all, rfl, _⟩
      · exact absurd h0 h3
      · rfl
    · simpa using e2
end
end Go.Vm

namespace Go.Ln
open Go Go.Vm
set_option linter.unusedVariables false
/-- bytes that are passed over -/
theorem feeds_skip (most : Int) : ∀ (b : List Nat) (r : Rd), b.length ≤ r.skip → feedsM most r b = ({ r with skip := r.skip - b.length }, [])
  | [], r, _ => rfl
  | c :: b, r, h => by
    have h0 : r.skip > 0 := by simp only [List.length_cons] at h; omega
    have e : feedM most r c = ({ r with skip := r.skip - 1 }, []) := by unfold feedM; rw [if_pos h0]
    rw [feedsM, e]
    simp only []
    rw [feeds_skip most b _ (by simp only [List.length_cons] at h ⊢; omega)]
    simp only [List.append_nil, List.length_cons]
    rw [show r.skip - 1 - b.length = r.skip - (b.length + 1) by omega]
/-- bytes of a literal -/
theorem feeds_lit (most : Int) : ∀ (b : List Nat) (r : Rd), r.skip = 0 → r.literal = true → b ≠ [] → b.length ≤ r.want →
    feedsM most r b = (if b.length = r.want then { r with want := 0, lits := r.lits ++ [r.lit ++ b], lit := [], literal := false } else { r with want := r.want - b.length, lit := r.lit ++ b }, [])
  | [], r, _, _, h, _ => absurd rfl h
  | [c], r, h1, h2, _, h4 => by
    have h0 : ¬ r.skip > 0 := by omega
    have e : feedM most r c = (if r.want ≤ 1 then ({ r with want := 0, lits := r.lits ++ [r.lit ++ [c]], lit := [], literal := false }, []) else ({ r with want := r.want - 1, lit := r.lit ++ [c] }, [])) := by
      unfold feedM; rw [if_neg h0, if_pos h2]
    rw [feedsM, feedsM, e]
    simp only [List.length_cons, List.length_nil] at h4
    by_cases hw : r.want ≤ 1
    · have : [c].length = r.want := by simp only [List.length_cons, List.length_nil]; omega
      rw [if_pos hw, if_pos this]; rfl
    · have : ¬ [c].length = r.want := by simp only [List.length_cons, List.length_nil]; omega
      rw [if_neg hw, if_neg this]; rfl
  | c :: d :: b, r, h1, h2, _, h4 => by
    have h0 : ¬ r.skip > 0 := by omega
    simp only [List.length_cons] at h4
    have hw : ¬ r.want ≤ 1 := by omega
    have e : feedM most r c = ({ r with want := r.want - 1, lit := r.lit ++ [c] }, []) := by
      unfold feedM; rw [if_neg h0, if_pos h2, if_neg hw]
    rw [feedsM, e]
    simp only []
    have ih := feeds_lit most (d :: b) { r with want := r.want - 1, lit := r.lit ++ [c] } h1 h2 (by simp) (by simp only [List.length_cons]; omega)
    rw [ih]
    simp only [List.length_cons, List.append_assoc, List.singleton_append, List.append_nil]
    by_cases hz : b.length + 1 = r.want - 1
    · rw [if_pos hz, if_pos (by omega)]
    · rw [if_neg hz, if_neg (by omega)]
      rw [show r.want - 1 - (b.length + 1) = r.want - (b.length + 1 + 1) by omega]
end Go.Ln

namespace Go.Ln
open Go Go.Vm
set_option linter.unusedVariables false
def bytesL (l : List (List Nat)) : Nat := (l.map fun t => t.length + 1).sum
theorem bytesL_append (a b : List (List Nat)) : bytesL (a ++ b) = bytesL a + bytesL b := by simp [bytesL]
theorem bytesL_one (t : List Nat) : bytesL [t] = t.length + 1 := by simp [bytesL]
theorem bytesL_nil : bytesL [] = 0 := rfl
theorem bytesL_len : ∀ l : List (List Nat), l.length ≤ bytesL l
  | [] => Nat.le_refl _
  | t :: l => by have := bytesL_len l; simp only [bytesL, List.map_cons, List.sum_cons, List.length_cons] at this ⊢; omega
theorem bytesL_mem : ∀ {l : List (List Nat)} {t : List Nat}, t ∈ l → t.length < bytesL l
  | [], t, h => by cases h
  | u :: l, t, h => by
    rcases List.mem_cons.1 h with rfl | h
    · simp only [bytesL, List.map_cons, List.sum_cons]; omega
    · have := bytesL_mem h; simp only [bytesL, List.map_cons, List.sum_cons] at this ⊢; omega
/-- how much a reader holds -/
def Rd.mu (r : Rd) : Nat := r.long + 2 * r.now.length + r.lit.length + bytesL r.texts + bytesL r.lits
structure RdOk (most : Int) (B : Nat) (r : Rd) : Prop where
  cnt : r.texts.length = r.lits.length + (if r.literal then 1 else 0)
  want : r.literal = true → 0 < r.want
  wmax : r.want ≤ 4294967295
  smax : r.skip ≤ 4294967295
  wide : (r.wide : Int) ≤ most
  mmax : most < 9223372036854775808
  tb : ∀ t ∈ r.texts, ∀ c ∈ t, c < 256
  lb : ∀ t ∈ r.lits, ∀ c ∈ t, c < 256
  nb : ∀ c ∈ r.now, c < 256
  qb : ∀ c ∈ r.lit, c < 256
  mu : r.mu ≤ B
theorem RdOk.fresh {most : Int} {B skip : Nat} {line : Bool} (h0 : 0 ≤ most) (h : most < 9223372036854775808) (hs : skip ≤ 4294967295) : RdOk most B { skip := skip, line := line } :=
  ⟨rfl, fun h => (by cases h), Nat.zero_le _, hs, h0, h, fun _ h => (by cases h), fun _ h => (by cases h), fun _ h => (by cases h), fun _ h => (by cases h), Nat.zero_le _⟩
theorem RdOk.le {most : Int} {B B' : Nat} {r : Rd} (k : RdOk most B r) (h : B ≤ B') : RdOk most B' r := ⟨k.cnt, k.want, k.wmax, k.smax, k.wide, k.mmax, k.tb, k.lb, k.nb, k.qb, Nat.le_trans k.mu h⟩
theorem numM_le {s : List Nat} {n : Nat} (h : numM s = some n) : n ≤ 4294967295 := by
  unfold numM at h
  split at h
  · cases h
  · split at h
    · cases h
    · cases h; omega
theorem lastM_lt : ∀ {c : Nat} {l : List Nat} {i : Nat}, lastM c l = some i → i < l.length
  | c, [], i, h => by cases h
  | c, d :: l, i, h => by
    rw [lastM] at h
    cases hl : lastM c l with
    | some j => rw [hl] at h; cases h; have := lastM_lt hl; simp only [List.length_cons]; omega
    | none =>
      rw [hl] at h
      simp only [] at h
      split at h
      · cases h; simp
      · cases h
theorem markerM_some {t a : List Nat} {n : Nat} {p : Bool} (h : markerM t = some (a, n, p)) : n ≤ 4294967295 ∧ a.length + 2 ≤ t.length ∧ ∀ c ∈ a, c ∈ t := by
  unfold markerM at h
  split at h
  · cases hl : lastM 123 t.dropLast with
    | none => rw [hl] at h; cases h
    | some i =>
      rw [hl] at h
      have hi := lastM_lt hl
      rw [List.length_dropLast] at hi
      simp only [] at h
      have key : t.take i = a → a.length + 2 ≤ t.length ∧ ∀ c ∈ a, c ∈ t := fun e => by
        cases e
        exact ⟨by rw [List.length_take]; omega, fun c hc => List.mem_of_mem_take hc⟩
      split at h
      · cases hn : numM (t.dropLast.drop (i + 1)).dropLast with
        | none => rw [hn] at h; cases h
        | some m => rw [hn] at h; cases h; exact ⟨numM_le hn, key rfl⟩
      · cases hn : numM (t.dropLast.drop (i + 1)) with
        | none => rw [hn] at h; cases h
        | some m => rw [hn] at h; cases h; exact ⟨numM_le hn, key rfl⟩
  · cases h
theorem cutCR_le (t : List Nat) : (cutCR t).length ≤ t.length ∧ ∀ c ∈ cutCR t, c ∈ t := by
  unfold cutCR
  split
  · exact ⟨by rw [List.length_dropLast]; omega, fun c h => (List.dropLast_sublist t).subset h⟩
  · exact ⟨Nat.le_refl _, fun c h => h⟩
theorem RdOk.endM {most : Int} {B : Nat} {r : Rd} (k : RdOk most B r) (h1 : r.literal = false) (hm : 0 ≤ most) : RdOk most B (endM most r).1 := by
  unfold Ln.endM
  have hc := cutCR_le r.now
  cases h : markerM (cutCR r.now) with
  | none =>
    simp only []
    cases parseM (r.texts ++ [cutCR r.now]) r.lits <;> exact RdOk.fresh hm k.mmax (Nat.zero_le _)
  | some x =>
    obtain ⟨a, n, p⟩ := x
    have hs := markerM_some h
    simp only []
    split
    · cases p
      · exact RdOk.fresh hm k.mmax (Nat.zero_le _)
      · exact RdOk.fresh hm k.mmax hs.1
    · rename_i hle
      have hcnt := k.cnt
      rw [h1] at hcnt
      refine ⟨?_, ?_, hs.1, k.smax, ?_, k.mmax, ?_, ?_, fun c hc => (by cases hc), k.qb, ?_⟩
      · show (r.texts ++ [a]).length = _
        simp only [List.length_append, List.length_cons, List.length_nil, hcnt]
        by_cases hn : n = 0
        · simp [hn]
        · simp [hn, show 0 < n by omega]
      · intro hd
        exact of_decide_eq_true hd
      · show ((r.wide + n : Nat) : Int) ≤ most
        omega
      · intro t ht c hct
        rcases List.mem_append.1 ht with ht | ht
        · exact k.tb t ht c hct
        · rw [List.mem_singleton.1 ht] at hct; exact k.nb c (hc.2 c (hs.2.2 c hct))
      · intro t ht c hct
        by_cases hn : n = 0
        · replace ht : t ∈ (if n = 0 then r.lits ++ [[]] else r.lits) := ht
          rw [if_pos hn] at ht
          rcases List.mem_append.1 ht with ht | ht
          · exact k.lb t ht c hct
          · rw [List.mem_singleton.1 ht] at hct; cases hct
        · replace ht : t ∈ (if n = 0 then r.lits ++ [[]] else r.lits) := ht
          rw [if_neg hn] at ht
          exact k.lb t ht c hct
      · have hmu := k.mu
        show (r.long + (cutCR r.now).length) + 2 * 0 + r.lit.length + bytesL (r.texts ++ [a]) + bytesL (if n = 0 then r.lits ++ [[]] else r.lits) ≤ B
        have hb : bytesL (if n = 0 then r.lits ++ [[]] else r.lits) ≤ bytesL r.lits + 1 := by
          by_cases hn : n = 0
          · rw [if_pos hn, bytesL_append, bytesL_one]; simp
          · rw [if_neg hn]; omega
        rw [bytesL_append, bytesL_one]
        unfold Rd.mu at hmu
        have := hs.2.1
        have := hc.1
        omega
theorem RdOk.feedM {most : Int} {B c : Nat} {r : Rd} (k : RdOk most B r) (hm : 0 ≤ most) (hc : c < 256) : RdOk most (B + 2) (feedM most r c).1 := by
  unfold Ln.feedM
  have hmu := k.mu
  unfold Rd.mu at hmu
  split
  · have := k.smax
    exact ⟨k.cnt, k.want, k.wmax, by show r.skip - 1 ≤ _; omega, k.wide, k.mmax, k.tb, k.lb, k.nb, k.qb, by unfold Rd.mu; show r.long + 2 * r.now.length + r.lit.length + bytesL r.texts + bytesL r.lits ≤ _; omega⟩
  · split
    · rename_i hlit
      have hcnt := k.cnt
      rw [hlit] at hcnt
      simp only [if_true] at hcnt
      split
      · refine ⟨?_, fun h => (by cases h), Nat.zero_le _, k.smax, k.wide, k.mmax, k.tb, ?_, k.nb, fun _ h => (by cases h), ?_⟩
        · show r.texts.length = (r.lits ++ [r.lit ++ [c]]).length + 0
          simp only [List.length_append, List.length_cons, List.length_nil]; omega
        · intro t ht d hd
          rcases List.mem_append.1 ht with ht | ht
          · exact k.lb t ht d hd
          · rw [List.mem_singleton.1 ht] at hd
            rcases List.mem_append.1 hd with hd | hd
            · exact k.qb d hd
            · rw [List.mem_singleton.1 hd]; exact hc
        · show r.long + 2 * r.now.length + 0 + bytesL r.texts + bytesL (r.lits ++ [r.lit ++ [c]]) ≤ B + 2
          rw [bytesL_append, bytesL_one, List.length_append, List.length_cons, List.length_nil]; omega
      · have hw := k.wmax
        refine ⟨?_, fun _ => ?_, ?_, k.smax, k.wide, k.mmax, k.tb, k.lb, k.nb, ?_, ?_⟩
        · show r.texts.length = r.lits.length + (if r.literal then 1 else 0)
          rw [hlit]; exact hcnt
        · show 0 < r.want - 1; omega
        · show r.want - 1 ≤ _; omega
        · intro d hd
          rcases List.mem_append.1 hd with hd | hd
          · exact k.qb d hd
          · rw [List.mem_singleton.1 hd]; exact hc
        · show r.long + 2 * r.now.length + (r.lit ++ [c]).length + bytesL r.texts + bytesL r.lits ≤ B + 2
          rw [List.length_append, List.length_cons, List.length_nil]; omega
    · rename_i hlit
      split
      · exact ⟨k.cnt, k.want, k.wmax, k.smax, k.wide, k.mmax, k.tb, k.lb, k.nb, k.qb, Nat.le_trans k.mu (by omega)⟩
      · split
        · exact (RdOk.endM k (by cases h : r.literal <;> simp_all) hm).le (by omega)
        · split
          · exact RdOk.fresh hm k.mmax (Nat.zero_le _)
          · refine ⟨k.cnt, k.want, k.wmax, k.smax, k.wide, k.mmax, k.tb, k.lb, ?_, k.qb, ?_⟩
            · intro d hd
              rcases List.mem_append.1 hd with hd | hd
              · exact k.nb d hd
              · rw [List.mem_singleton.1 hd]; exact hc
            · show r.long + 2 * (r.now ++ [c]).length + r.lit.length + bytesL r.texts + bytesL r.lits ≤ B + 2
              rw [List.length_append, List.length_cons, List.length_nil]; omega
theorem RdOk.feedsM {most : Int} (hm : 0 ≤ most) : ∀ {b : List Nat} {B : Nat} {r : Rd}, RdOk most B r → (∀ c ∈ b, c < 256) → RdOk most (B + 2 * b.length) (feedsM most r b).1
  | [], B, r, k, _ => k
  | c :: b, B, r, k, hb => by
    rw [Ln.feedsM]
    exact (RdOk.feedsM hm (k.feedM hm (hb c (by simp))) fun d hd => hb d (by simp [hd])).le (by simp only [List.length_cons]; omega)
theorem St_size {t : List Nat} {ts lits : List (List Nat)} : St.size ⟨t, lits.zip ts⟩ ≤ bytesL (t :: ts) := by
  have key : ∀ lits ts : List (List Nat), ((lits.zip ts).map fun p => p.2.length + 1).sum ≤ bytesL ts := by
    intro lits
    induction lits with
    | nil => intro ts; simp
    | cons l lits ih =>
      intro ts
      cases ts with
      | nil => simp
      | cons u ts =>
        have := ih ts
        simp only [List.zip_cons_cons, List.map_cons, List.sum_cons, bytesL] at this ⊢
        omega
  have := key lits ts
  simp only [St.size, bytesL, List.map_cons, List.sum_cons] at this ⊢
  omega
end Go.Ln
