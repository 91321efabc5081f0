/- Part of the value machine, or of a walk by it: lemmas that the claim's last text uses. No conditions. -/
import Derived.Test.YtnlbcbjgejpanaaGreatDoorSeVmO
import Derived.Test.YtnlbcbjgejpanaaGreatDoorChecked
import Derived.KernelRfl
import Derived.Test.YtnlbcbjgejpanaaGreatDoorSeFeD
set_option linter.unusedVariables false
set_option linter.unusedSimpArgs false
set_option linter.unnecessarySimpa false
noncomputable section
namespace Go.Vm
variable {h : Hp} {c : EqC}
theorem oBin_digit {d : Nat} (h1 : 48 ≤ d) (h2 : d ≤ 57) : oBin .sub c (.int .u8 (d : Int)) (.int .u8 48) h = .ok (.int .u8 ((d - 48 : Nat) : Int)) h := by
  show okInt .u8 (IntKind.u8.wrap ((d : Int) - 48)) h = _
  obtain ⟨e, rfl⟩ : ∃ e, d = e + 48 := ⟨d - 48, by omega⟩
  have he : e < 10 := by omega
  rw [okInt_eq]
  have : IntKind.u8.wrap (((e + 48 : Nat) : Int) - 48) = ((e + 48 - 48 : Nat) : Int) := by
    rw [show ((e + 48 : Nat) : Int) - 48 = (e : Int) by omega, Nat.add_sub_cancel]
    match e, he with
    | 0, _ => rfl
    | 1, _ => rfl
    | 2, _ => rfl
    | 3, _ => rfl
    | 4, _ => rfl
    | 5, _ => rfl
    | 6, _ => rfl
    | 7, _ => rfl
    | 8, _ => rfl
    | 9, _ => rfl
  rw [this]
end Go.Vm
namespace Go.Proofs.Im
open Go Go.Proofs Go.Vm Go.Ln
set_option linter.unusedVariables false
set_option maxRecDepth 100000
set_option linter.unusedSimpArgs false
def digs (l : List Nat) : Nat := l.foldl (fun n c => n * 10 + (c - 48)) 0
theorem digs_snoc (l : List Nat) (c : Nat) : digs (l ++ [c]) = digs l * 10 + (c - 48) := by simp [digs]
theorem digs_lt : ∀ (n : Nat) (l : List Nat), l.length ≤ n → n ≤ 10 → (∀ c ∈ l, 48 ≤ c ∧ c ≤ 57) → digs l < 10 ^ l.length := by
  intro n
  induction n with
  | zero => intro l hl _ _; have : l = [] := List.length_eq_zero_iff.1 (by omega); subst this; simp [digs]
  | succ n ih =>
    intro l hl hn hd
    rcases List.eq_nil_or_concat l with rfl | ⟨l', c, rfl⟩
    · simp [digs]
    · rw [List.concat_eq_append] at *
      have h1 := ih l' (by simp at hl; omega) (by omega) fun d hd' => hd d (by simp [hd'])
      have h2 := hd c (by simp)
      rw [digs_snoc, List.length_append, List.length_singleton, Nat.pow_succ]
      omega
def numV (s : List Nat) : V := match numM s with | some n => two (.int .i64 (n : Int)) (.bool true) | none => two (.int .i64 0) (.bool false)
theorem numM_no {s : List Nat} (hs : s = [] ∨ s.length > 10 ∨ (s.head? = some 48 ∧ s.length > 1) ∨ ¬ (∀ c ∈ s, 48 ≤ c ∧ c ≤ 57)) : numV s = two (.int .i64 0) (.bool false) := by
  unfold numV numM
  rw [if_pos hs]
theorem numM_yes {s : List Nat} (hs : ¬ (s = [] ∨ s.length > 10 ∨ (s.head? = some 48 ∧ s.length > 1) ∨ ¬ (∀ c ∈ s, 48 ≤ c ∧ c ≤ 57))) : numV s = if digs s > 4294967295 then two (.int .i64 0) (.bool false) else two (.int .i64 (digs s : Int)) (.bool true) := by
  unfold numV numM
  rw [if_neg hs]
  show (match (if digs s > 4294967295 then none else some (digs s)) with | some n => two (.int .i64 (n : Int)) (.bool true) | none => two (.int .i64 0) (.bool false)) = _
  by_cases hz : digs s > 4294967295
  · rw [if_pos hz, if_pos hz]
  · rw [if_neg hz, if_neg hz]
theorem num_ok {s : List Nat} (hl : s.length < 1000000000) (h : Hp) : TryF35 [.str s] h = .ok (numV s) h := by
  rw [TryF35_eq]
  have : Tells Tryz.prog [.tmp 2, .tmp 3] (fun r h' => r = numV s ∧ h' = h) (Tryd35 (T.set (some (.str s)) (Pos.of 0) T.nil) h) := by
    by_cases h0 : s = []
    · subst h0
      simp (disch := omega) only [vmL, Nat.reduceEqDiff, reduceCtorEq, ↓reduceIte, vpL, vsL, vqL, Tryd35, Tryr35_0, Tryr35_1, Tryr35_2]
      exact Tells.ret (by simp only [resK, vmL, Nat.reduceEqDiff, reduceCtorEq, ↓reduceIte, vpL, vsL, vqL, tupR]; rfl) ⟨(numM_no (.inl rfl)).symm, rfl⟩
    by_cases h1 : s.length > 10
    · have h1' : (s.length : Int) > 10 := by omega
      simp (disch := omega) only [vmL, Nat.reduceEqDiff, reduceCtorEq, ↓reduceIte, vpL, vsL, vqL, Tryd35, Tryr35_0, Tryr35_1, Tryr35_2, h0, h1']
      exact Tells.ret (by simp only [resK, vmL, Nat.reduceEqDiff, reduceCtorEq, ↓reduceIte, vpL, vsL, vqL, tupR]; rfl) ⟨(numM_no (.inr (.inl h1))).symm, rfl⟩
    have h1' : ¬ (s.length : Int) > 10 := by omega
    have hpos : 0 < s.length := List.length_pos_iff.2 h0
    have hhd : s.head? = some s[0] := by rw [List.head?_eq_getElem?, List.getElem?_eq_getElem hpos]
    have ix0 : ∀ h, oIdxStr (.str s) (.int .i64 0) h = .ok (.int .u8 (s[0] : Int)) h := fun h => oIdxStr_lit0 (List.getElem?_eq_getElem hpos)
    have goal : ¬ (s.head? = some 48 ∧ s.length > 1) → Tells Tryz.prog [.tmp 2, .tmp 3] (fun r h' => r = numV s ∧ h' = h) (thenO (Tryr35_3 (T.set (some (.bool false)) (Pos.of 22) (T.set (some (.bool false)) (Pos.of 3) (T.set (some (.int .i64 0)) (Pos.of 2) (T.set (some (.str s)) (Pos.of 0) T.nil)))) h) (seqO (seqO Tryr35_4 (blkO 0 (loopO Tryb35_5 lf))) (seqO (seqO Tryr35_11 (cndX (.tmp 48) (seqO Tryr35_12 Out.ret) Out.nor)) (seqO Tryr35_13 Out.ret)))) := by
      intro h2
      simp (disch := omega) only [vmL, Nat.reduceEqDiff, reduceCtorEq, ↓reduceIte, vpL, vsL, vqL, Tryr35_3, Tryr35_4]
      refine Oc.then (loop_rule (n := s.length) (fun m fr g => ∃ k : Nat, fr.get (Pos.of 0) = some (.str s) ∧ fr.get (Pos.of 25) = some (.int .i64 (k : Int)) ∧ fr.get (Pos.of 24) = some (.int .i64 (s.length : Int)) ∧ fr.get (Pos.of 4) = some (.int .i64 (digs (s.take k) : Int)) ∧ k + m = s.length ∧ (∀ c ∈ s.take k, 48 ≤ c ∧ c ≤ 57) ∧ g = h)
        (A := fun fr g => fr.get (Pos.of 4) = some (.int .i64 (digs s : Int)) ∧ (∀ c ∈ s, 48 ≤ c ∧ c ≤ 57) ∧ g = h) (B := fun fr g => fr.get (Pos.of 2) = some (.int .i64 0) ∧ fr.get (Pos.of 3) = some (.bool false) ∧ ¬ (∀ c ∈ s, 48 ≤ c ∧ c ≤ 57) ∧ g = h) (by rw [lf_eq]; omega) ?_ ?_) ?_ ?_
      · exact ⟨0, by simp only [vmL, Nat.reduceEqDiff, reduceCtorEq, ↓reduceIte, vpL, vsL, vqL], by simp only [vmL, Nat.reduceEqDiff, reduceCtorEq, ↓reduceIte, vpL, vsL, vqL]; rfl, by simp only [vmL, Nat.reduceEqDiff, reduceCtorEq, ↓reduceIte, vpL, vsL, vqL], by simp only [vmL, Nat.reduceEqDiff, reduceCtorEq, ↓reduceIte, vpL, vsL, vqL]; rfl, by omega, fun c hc => by simp at hc, rfl⟩
      · rintro m fr g ⟨k, f0, f25, f24, f4, hk, hall, rfl⟩
        by_cases hlt : k < s.length
        · have hlt' : (k : Int) < (s.length : Int) := by omega
          have hc : s[k]? = some s[k] := List.getElem?_eq_getElem hlt
          have ix : ∀ h, oIdxStr (.str s) (.int .i64 (k : Int)) h = .ok (.int .u8 (s[k] : Int)) h := fun h => oIdxStr_ok hc
          have hbd := digs_lt k (s.take k) (by rw [List.length_take]; omega) (by omega) hall
          have hbd' : digs (s.take k) < 10 ^ 10 := Nat.lt_of_lt_of_le hbd (Nat.pow_le_pow_right (by omega) (by rw [List.length_take]; omega))
          by_cases hd1 : s[k] < 48
          · have hd1' : ((s[k] : Nat) : Int) < 48 := by omega
            simp (disch := omega) only [vmL, Nat.reduceEqDiff, reduceCtorEq, ↓reduceIte, vpL, vsL, vqL, Tryb35_5, Tryr35_5, Tryr35_6, Tryr35_7, Tryr35_8, f0, f25, f24, hlt', ix, hd1']
            exact ⟨by simp only [vmL, Nat.reduceEqDiff, reduceCtorEq, ↓reduceIte, vpL, vsL, vqL], by simp only [vmL, Nat.reduceEqDiff, reduceCtorEq, ↓reduceIte, vpL, vsL, vqL], fun q => by have := q _ (List.mem_of_getElem? hc); omega, rfl⟩
          · have hd1' : ¬ ((s[k] : Nat) : Int) < 48 := by omega
            by_cases hd2 : s[k] > 57
            · have hd2' : ((s[k] : Nat) : Int) > 57 := by omega
              simp (disch := omega) only [vmL, Nat.reduceEqDiff, reduceCtorEq, ↓reduceIte, vpL, vsL, vqL, Tryb35_5, Tryr35_5, Tryr35_6, Tryr35_7, Tryr35_8, f0, f25, f24, hlt', ix, hd1', hd2']
              exact ⟨by simp only [vmL, Nat.reduceEqDiff, reduceCtorEq, ↓reduceIte, vpL, vsL, vqL], by simp only [vmL, Nat.reduceEqDiff, reduceCtorEq, ↓reduceIte, vpL, vsL, vqL], fun q => by have := q _ (List.mem_of_getElem? hc); omega, rfl⟩
            · have hd2' : ¬ ((s[k] : Nat) : Int) > 57 := by omega
              simp (disch := omega) only [vmL, Nat.reduceEqDiff, reduceCtorEq, ↓reduceIte, vpL, vsL, vqL, Tryb35_5, Tryr35_5, Tryr35_6, Tryr35_7, Tryr35_8, Tryr35_9, Tryr35_10, f0, f25, f24, f4, hlt', ix, hd1', hd2', oBin_mul, oBin_digit]
              refine ⟨m - 1, by omega, k + 1, by simp only [vmL, Nat.reduceEqDiff, reduceCtorEq, ↓reduceIte, vpL, vsL, vqL, f0], by simp only [vmL, Nat.reduceEqDiff, reduceCtorEq, ↓reduceIte, vpL, vsL, vqL]; rfl, by simp only [vmL, Nat.reduceEqDiff, reduceCtorEq, ↓reduceIte, vpL, vsL, vqL, f24], ?_, by omega, fun d hd => ?_, rfl⟩
              · simp only [vmL, Nat.reduceEqDiff, reduceCtorEq, ↓reduceIte, vpL, vsL, vqL, Option.some.injEq, V.int.injEq, true_and]
                rw [List.take_add_one, hc, Option.toList_some, digs_snoc]
                omega
              · rw [List.take_add_one, hc] at hd
                rcases List.mem_append.1 hd with hd | hd
                · exact hall d hd
                · simp at hd; omega
        · have hlt' : ¬ (k : Int) < (s.length : Int) := by omega
          have hks : s.take k = s := List.take_of_length_le (by omega)
          rw [hks] at f4 hall
          simp (disch := omega) only [vmL, Nat.reduceEqDiff, reduceCtorEq, ↓reduceIte, vpL, vsL, vqL, Tryb35_5, Tryr35_5, f25, f24, hlt']
          exact ⟨rfl, by simp only [vmL, Nat.reduceEqDiff, reduceCtorEq, ↓reduceIte, vpL, vsL, vqL, f4], hall, rfl⟩
      · rintro fr g ⟨f4, hall, rfl⟩
        have hy := numM_yes (s := s) (by rintro (q | q | q | q); exact h0 q; exact h1 q; exact h2 q; exact q hall)
        by_cases hz : digs s > 4294967295
        · have hz' : ((digs s : Nat) : Int) > 4294967295 := by omega
          rw [if_pos hz] at hy
          simp (disch := omega) only [vmL, Nat.reduceEqDiff, reduceCtorEq, ↓reduceIte, vpL, vsL, vqL, Tryr35_11, Tryr35_12, f4, hz']
          exact Tells.ret (by simp only [resK, vmL, Nat.reduceEqDiff, reduceCtorEq, ↓reduceIte, vpL, vsL, vqL, tupR]; rfl) ⟨hy.symm, rfl⟩
        · have hz' : ¬ ((digs s : Nat) : Int) > 4294967295 := by omega
          rw [if_neg hz] at hy
          simp (disch := omega) only [vmL, Nat.reduceEqDiff, reduceCtorEq, ↓reduceIte, vpL, vsL, vqL, Tryr35_11, Tryr35_12, Tryr35_13, f4, hz']
          exact Tells.ret (by simp only [resK, vmL, Nat.reduceEqDiff, reduceCtorEq, ↓reduceIte, vpL, vsL, vqL, tupR]; rfl) ⟨hy.symm, rfl⟩
      · rintro fr g ⟨f2, f3, hno, rfl⟩
        exact Tells.ret (by simp only [resK, f2, f3, tupR]; rfl) ⟨(numM_no (.inr (.inr (.inr hno)))).symm, rfl⟩
    by_cases h48 : s[0] = 48
    · have h48' : ((s[0] : Nat) : Int) = 48 := by omega
      by_cases hg : s.length > 1
      · have hg' : (s.length : Int) > 1 := by omega
        simp (disch := omega) only [vmL, Nat.reduceEqDiff, reduceCtorEq, ↓reduceIte, vpL, vsL, vqL, Tryd35, Tryr35_0, Tryr35_1, Tryr35_2, h0, h1', ix0, eq_true h48', hg']
        exact Tells.ret (by simp only [resK, vmL, Nat.reduceEqDiff, reduceCtorEq, ↓reduceIte, vpL, vsL, vqL, tupR]; rfl) ⟨(numM_no (.inr (.inr (.inl ⟨by rw [hhd, h48], hg⟩)))).symm, rfl⟩
      · have hg' : ¬ (s.length : Int) > 1 := by omega
        simp (disch := omega) only [vmL, Nat.reduceEqDiff, reduceCtorEq, ↓reduceIte, vpL, vsL, vqL, Tryd35, Tryr35_0, Tryr35_1, Tryr35_2, h0, h1', ix0, eq_true h48', hg']
        exact goal fun q => hg q.2
    · have h48' : ¬ ((s[0] : Nat) : Int) = 48 := by omega
      simp (disch := omega) only [vmL, Nat.reduceEqDiff, reduceCtorEq, ↓reduceIte, vpL, vsL, vqL, Tryd35, Tryr35_0, Tryr35_1, Tryr35_2, h0, h1', ix0, h48']
      exact goal fun q => h48 (by have := q.1; rw [hhd] at this; exact Option.some.inj this)
  obtain ⟨r, h', e, rfl, rfl⟩ := this
  exact e
end Go.Proofs.Im

noncomputable section
namespace Go.Vm
variable {h : Hp}
theorem oExtract_3 (x y z u l : V) : oExtract 3 (.tuple (.cons x (.cons y (.cons z (.cons u l))))) h = .ok u h := (rfl)
end Go.Vm
namespace Go.Proofs.Im
open Go Go.Proofs Go.Vm Go.Ln
set_option linter.unusedVariables false
set_option maxRecDepth 100000
set_option linter.unusedSimpArgs false
def four (a b c d : V) : V := .tuple (.cons a (.cons b (.cons c (.cons d .nil))))
def markV (t : List Nat) : V := match markerM t with
  | some (a, n, p) => four (.str a) (.int .i64 (n : Int)) (.bool p) (.bool true)
  | none => four (.str t) (.int .i64 0) (.bool false) (.bool false)
theorem marker_ok {t : List Nat} (hl : t.length < 1000000000) (h : Hp) : TryF27 [.str t] h = .ok (markV t) h := by
  rw [TryF27_eq]
  have : Tells Tryz.prog [.tmp 2, .tmp 3, .tmp 4, .tmp 5] (fun r h' => r = markV t ∧ h' = h) (Tryd27 (T.set (some (.str t)) (Pos.of 0) T.nil) h) := by
    have c1 := cut_ok (s := t) (c := 125) (by omega) h
    by_cases h1 : t.getLast? = some 125
    · rw [cutV, if_pos h1, two] at c1
      have c2 := last_ok (s := t.dropLast) (c := 123) (by rw [List.length_dropLast]; omega) h
      replace c2 : TryF34 [.str t.dropLast, .int .u8 123] h = .ok (.int .i64 (lastV 123 t.dropLast)) h := c2
      rcases lastM_eq 123 t.dropLast with ⟨hn, -⟩ | ⟨i, hi, hgi, -⟩
      · rw [lastV, hn] at c2
        simp (disch := omega) only [vmL, Nat.reduceEqDiff, reduceCtorEq, ↓reduceIte, vpL, vsL, vqL, Tryd27, Tryr27_0, Tryr27_1, c1, Tryr27_2, c2, Tryr27_3, Tryr27_4, show ((-1 : Int) < 0) by omega]
        refine Tells.ret (by simp only [resK, vmL, Nat.reduceEqDiff, reduceCtorEq, ↓reduceIte, vpL, vsL, vqL, tupR]; rfl) ⟨?_, rfl⟩
        unfold markV markerM; rw [if_pos h1, hn]; rfl
      · rw [lastV, hi] at c2
        have hlt : i < t.dropLast.length := (List.getElem?_eq_some_iff.1 hgi).1
        have hdl : t.dropLast.length < 1000000000 := by rw [List.length_dropLast]; omega
        have hnn : ¬ ((i : Int) < 0) := by omega
        have s1 : ∀ h, oSliceStr (.str t.dropLast) (some (.int .i64 ((i : Int) + 1))) none h = .ok (.str (t.dropLast.drop (i + 1))) h := fun h => oSliceStr_from (m := i + 1) (by omega)
        have s2 : ∀ h, oSliceStr (.str t.dropLast) none (some (.int .i64 (i : Int))) h = .ok (.str (t.dropLast.take i)) h := fun h => oSliceStr_to (by omega)
        have ht : t.dropLast.take i = t.take i := by
          rw [List.dropLast_eq_take, List.take_take, Nat.min_eq_left]; rw [List.length_dropLast] at hlt; omega
        have hld : (t.dropLast.drop (i + 1)).length < 1000000000 := by rw [List.length_drop]; omega
        have c3 := cut_ok (s := t.dropLast.drop (i + 1)) (c := 43) (by omega) h
        by_cases h43 : (t.dropLast.drop (i + 1)).getLast? = some 43
        · rw [cutV, if_pos h43, two] at c3
          have c4 := num_ok (s := (t.dropLast.drop (i + 1)).dropLast) (by rw [List.length_dropLast]; omega) h
          cases hm : numM (t.dropLast.drop (i + 1)).dropLast with
          | none =>
            rw [numV, hm] at c4
            simp (disch := omega) only [vmL, Nat.reduceEqDiff, reduceCtorEq, ↓reduceIte, vpL, vsL, vqL, Tryd27, Tryr27_0, Tryr27_1, c1, Tryr27_2, c2, Tryr27_3, hnn, Tryr27_5, s1, c3, Tryr27_6, c4, two, Tryr27_7, Tryr27_8]
            refine Tells.ret (by simp only [resK, vmL, Nat.reduceEqDiff, reduceCtorEq, ↓reduceIte, vpL, vsL, vqL, tupR]; rfl) ⟨?_, rfl⟩
            unfold markV markerM; rw [if_pos h1, hi]; simp only []; rw [if_pos h43, hm]; rfl
          | some n =>
            rw [numV, hm] at c4
            simp (disch := omega) only [vmL, Nat.reduceEqDiff, reduceCtorEq, ↓reduceIte, vpL, vsL, vqL, Tryd27, Tryr27_0, Tryr27_1, c1, Tryr27_2, c2, Tryr27_3, hnn, Tryr27_5, s1, c3, Tryr27_6, c4, two, Tryr27_7, Tryr27_9, s2]
            refine Tells.ret (by simp only [resK, vmL, Nat.reduceEqDiff, reduceCtorEq, ↓reduceIte, vpL, vsL, vqL, tupR]; rfl) ⟨?_, rfl⟩
            unfold markV markerM; rw [if_pos h1, hi]; simp only []; rw [if_pos h43, hm, ht]; rfl
        · rw [cutV, if_neg h43, two] at c3
          have c4 := num_ok (s := t.dropLast.drop (i + 1)) hld h
          cases hm : numM (t.dropLast.drop (i + 1)) with
          | none =>
            rw [numV, hm] at c4
            simp (disch := omega) only [vmL, Nat.reduceEqDiff, reduceCtorEq, ↓reduceIte, vpL, vsL, vqL, Tryd27, Tryr27_0, Tryr27_1, c1, Tryr27_2, c2, Tryr27_3, hnn, Tryr27_5, s1, c3, Tryr27_6, c4, two, Tryr27_7, Tryr27_8]
            refine Tells.ret (by simp only [resK, vmL, Nat.reduceEqDiff, reduceCtorEq, ↓reduceIte, vpL, vsL, vqL, tupR]; rfl) ⟨?_, rfl⟩
            unfold markV markerM; rw [if_pos h1, hi]; simp only []; rw [if_neg h43, hm]; rfl
          | some n =>
            rw [numV, hm] at c4
            simp (disch := omega) only [vmL, Nat.reduceEqDiff, reduceCtorEq, ↓reduceIte, vpL, vsL, vqL, Tryd27, Tryr27_0, Tryr27_1, c1, Tryr27_2, c2, Tryr27_3, hnn, Tryr27_5, s1, c3, Tryr27_6, c4, two, Tryr27_7, Tryr27_9, s2]
            refine Tells.ret (by simp only [resK, vmL, Nat.reduceEqDiff, reduceCtorEq, ↓reduceIte, vpL, vsL, vqL, tupR]; rfl) ⟨?_, rfl⟩
            unfold markV markerM; rw [if_pos h1, hi]; simp only []; rw [if_neg h43, hm, ht]; rfl
    · rw [cutV, if_neg h1, two] at c1
      have c2 := last_ok (s := t) (c := 123) hl h
      replace c2 : TryF34 [.str t, .int .u8 123] h = .ok (.int .i64 (lastV 123 t)) h := c2
      simp (disch := omega) only [vmL, Nat.reduceEqDiff, reduceCtorEq, ↓reduceIte, vpL, vsL, vqL, Tryd27, Tryr27_0, Tryr27_1, c1, Tryr27_2, c2, Tryr27_3, Tryr27_4]
      refine Tells.ret (by simp only [resK, vmL, Nat.reduceEqDiff, reduceCtorEq, ↓reduceIte, vpL, vsL, vqL, tupR]; rfl) ⟨?_, rfl⟩
      unfold markV markerM; rw [if_neg h1]; rfl
  obtain ⟨r, h', e, rfl, rfl⟩ := this
  exact e
end Go.Proofs.Im

noncomputable section
namespace Go.Vm
variable {h : Hp}
theorem oBuild_p {u v : V} (hu : u.cells = [u] ∧ notTuple u = true) (hv : v.cells = [v] ∧ notTuple v = true) : oBuild [.nils, .nils, .int .i64 0, .int .i64 0] [(0, 1, u), (1, 1, v)] h = .ok (.agg (.cons u (.cons v (.cons (.int .i64 0) (.cons (.int .i64 0) .nil))))) h := by
  unfold oBuild
  simp only [fillP, hu.1, hu.2, hv.1, hv.2]
  rfl
theorem oBox_agg (t : TypeId) (l : V) : oBox t (.agg l) h = .ok (.ptr h.next 0) (h.new (.cells (.rw t true) l.list)) := (rfl)
end Go.Vm
namespace Go.Proofs.Im
open Go Go.Proofs Go.Vm Go.Ln
set_option linter.unusedVariables false
set_option maxRecDepth 100000
set_option linter.unusedSimpArgs false
theorem placesM_cons (f : Bool) (t : List Nat) (ts : List (List Nat)) (l : List Nat) (ls : List (List Nat)) : placesM f (t :: ts) (l :: ls) = ((match t.getLast? with | none => f | some c => decide (c = 32 ∨ c = 40)) && placesM false ts ls) := (rfl)
def LineQ (texts lits : List (List Nat)) (h : Hp) (r : V) (h' : Hp) : Prop :=
  Ch (fun _ => False) h h' ∧ ((parseM texts lits = none ∧ ∃ x, r = two x (.bool false)) ∨ ∃ ws v, parseM texts lits = some ws ∧ r = two v (.bool true) ∧ WRow (fun j => h.next.nat ≤ j.nat) h' v ws)
theorem linewords_ok {texts lits : List (List Nat)} {h : Hp} {vt vl : V} (ht : Sl h.next.nat h 1 vt texts.length (txs texts)) (hl : Sl h.next.nat h 1 vl lits.length (txs lits)) (hn : texts.length = lits.length + 1)
    (small : texts.length < 1000000000 ∧ ∀ t ∈ texts, t.length < 1000000000 ∧ ∀ c ∈ t, c < 256) (hsz : ∀ t ts, texts = t :: ts → St.size ⟨t, lits.zip ts⟩ < 1000000000) :
    ∃ r h', TryF28 [vt, vl] h = .ok r h' ∧ LineQ texts lits h r h' := by
  obtain ⟨t0, ts, rfl⟩ : ∃ t ts, texts = t :: ts := by cases texts with | nil => simp at hn | cons t ts => exact ⟨t, ts, rfl⟩
  have hz0 := hsz t0 ts rfl
  rw [TryF28_eq]
  show Tells Tryz.prog _ (LineQ (t0 :: ts) lits h) _
  simp (disch := omega) only [vmL, Nat.reduceEqDiff, reduceCtorEq, ↓reduceIte, vpL, vsL, vqL, Tryd28, Tryr28_0, Tryr28_1, hl.length]
  refine Oc.then (loop_rule (n := lits.length) (fun m fr g => ∃ k : Nat, fr.get (Pos.of 0) = some vt ∧ fr.get (Pos.of 1) = some vl ∧ fr.get (Pos.of 12) = some (.int .i64 (lits.length : Int)) ∧ fr.get (Pos.of 13) = some (.int .i64 (k : Int)) ∧ k + m = lits.length ∧
      placesM true (t0 :: ts) lits = placesM (decide (k = 0)) ((t0 :: ts).drop k) (lits.drop k) ∧ g = h)
    (A := fun fr g => fr.get (Pos.of 0) = some vt ∧ fr.get (Pos.of 1) = some vl ∧ placesM true (t0 :: ts) lits = true ∧ g = h) (B := fun fr g => fr.get (Pos.of 4) = some .nils ∧ fr.get (Pos.of 5) = some (.bool false) ∧ placesM true (t0 :: ts) lits = false ∧ g = h) (by rw [lf_eq]; omega) ?_ ?_) ?_ ?_
  · exact ⟨0, by simp only [vmL, Nat.reduceEqDiff, reduceCtorEq, ↓reduceIte, vpL, vsL, vqL], by simp only [vmL, Nat.reduceEqDiff, reduceCtorEq, ↓reduceIte, vpL, vsL, vqL], by simp only [vmL, Nat.reduceEqDiff, reduceCtorEq, ↓reduceIte, vpL, vsL, vqL], by simp only [vmL, Nat.reduceEqDiff, reduceCtorEq, ↓reduceIte, vpL, vsL, vqL]; rfl, by omega, rfl, rfl⟩
  · rintro m fr g ⟨k, f0, f1, f12, f13, hk, hp, rfl⟩
    by_cases hlt : k < lits.length
    · have hlt' : (k : Int) < (lits.length : Int) := by omega
      have hkt : k < (t0 :: ts).length := by omega
      obtain ⟨j, q, x, hx, e1, -, e2⟩ := ht.at1 hkt
      rw [txs_get, List.getElem?_eq_getElem hkt] at hx
      cases hx
      rw [List.drop_eq_getElem_cons hkt, List.drop_eq_getElem_cons hlt, placesM_cons] at hp
      have hsm := small.2 _ (List.getElem_mem hkt)
      obtain ⟨t, et⟩ : ∃ t, t = (t0 :: ts)[k] := ⟨_, rfl⟩
      rw [← et] at hp hsm e2
      have key : ∀ z : Bool, (match t.getLast? with | none => decide (k = 0) | some c => decide (c = 32 ∨ c = 40)) = z → (∀ (fr : F) (g' : Hp), fr.get (Pos.of 6) = some (.int .i64 (k : Int)) → fr.get (Pos.of 7) = some (.str t) → Tryr28_5 fr g' = .nor (T.set (some (.bool (!z))) (Pos.of 45) fr) g') := by
        intro z hz fr g' f6 f7
        by_cases ht0 : t = []
        · subst ht0
          have hz' : decide (k = 0) = z := hz
          by_cases hk0 : k = 0
          · have : ¬ (k : Int) > 0 := by omega
            rw [decide_eq_true hk0] at hz'
            subst hz'
            simp (disch := omega) only [vmL, Nat.reduceEqDiff, reduceCtorEq, ↓reduceIte, vpL, vsL, vqL, Tryr28_5, f6, f7, this]
          · have : (k : Int) > 0 := by omega
            rw [decide_eq_false hk0] at hz'
            subst hz'
            simp (disch := omega) only [vmL, Nat.reduceEqDiff, reduceCtorEq, ↓reduceIte, vpL, vsL, vqL, Tryr28_5, f6, f7, this]
        · have hlast := List.getLast?_eq_some_getLast ht0
          rw [hlast] at hz
          simp only [] at hz
          have hpos : 0 < t.length := List.length_pos_iff.2 ht0
          have ix : ∀ h, oIdxStr (.str t) (.int .i64 ((t.length : Int) - 1)) h = .ok (.int .u8 (t.getLast ht0 : Int)) h := fun h => by
            rw [show (t.length : Int) - 1 = ((t.length - 1 : Nat) : Int) by omega]
            exact oIdxStr_ok (by rw [← List.getLast?_eq_getElem?]; exact hlast)
          generalize t.getLast ht0 = c at hz ix
          have tl := hsm.1
          by_cases h32 : c = 32
          · have h32' : (c : Int) = 32 := by omega
            rw [decide_eq_true (.inl h32)] at hz
            subst hz
            simp (disch := omega) only [vmL, Nat.reduceEqDiff, reduceCtorEq, ↓reduceIte, vpL, vsL, vqL, Tryr28_5, f6, f7, ht0, ix, eq_true h32']
          · have h32' : ¬ (c : Int) = 32 := by omega
            by_cases h40 : c = 40
            · have h40' : (c : Int) = 40 := by omega
              rw [decide_eq_true (.inr h40)] at hz
              subst hz
              simp (disch := omega) only [vmL, Nat.reduceEqDiff, reduceCtorEq, ↓reduceIte, vpL, vsL, vqL, Tryr28_5, f6, f7, ht0, ix, h32', eq_true h40']
            · have h40' : ¬ (c : Int) = 40 := by omega
              rw [decide_eq_false (by omega)] at hz
              subst hz
              simp (disch := omega) only [vmL, Nat.reduceEqDiff, reduceCtorEq, ↓reduceIte, vpL, vsL, vqL, Tryr28_5, f6, f7, ht0, ix, h32', h40']
      cases hz : (match t.getLast? with | none => decide (k = 0) | some c => decide (c = 32 ∨ c = 40)) with
      | true =>
        rw [hz, Bool.true_and] at hp
        have k1 := key true hz
        simp (disch := omega) only [vmL, Nat.reduceEqDiff, reduceCtorEq, ↓reduceIte, vpL, vsL, vqL, Tryb28_2, Tryr28_2, Tryr28_3, Tryr28_4, f0, f12, f13, hlt', e1, e2 g rfl]
        rw [k1 _ _ (by simp only [vmL, Nat.reduceEqDiff, reduceCtorEq, ↓reduceIte, vpL, vsL, vqL]) (by simp only [vmL, Nat.reduceEqDiff, reduceCtorEq, ↓reduceIte, vpL, vsL, vqL])]
        simp (disch := omega) only [vmL, Nat.reduceEqDiff, reduceCtorEq, ↓reduceIte, vpL, vsL, vqL, Tryr28_7, f13]
        exact ⟨m - 1, by omega, k + 1, by simp only [vmL, Nat.reduceEqDiff, reduceCtorEq, ↓reduceIte, vpL, vsL, vqL, f0], by simp only [vmL, Nat.reduceEqDiff, reduceCtorEq, ↓reduceIte, vpL, vsL, vqL, f1], by simp only [vmL, Nat.reduceEqDiff, reduceCtorEq, ↓reduceIte, vpL, vsL, vqL, f12], by simp only [vmL, Nat.reduceEqDiff, reduceCtorEq, ↓reduceIte, vpL, vsL, vqL]; rfl, by omega, hp, rfl⟩
      | false =>
        rw [hz, Bool.false_and] at hp
        have k1 := key false hz
        simp (disch := omega) only [vmL, Nat.reduceEqDiff, reduceCtorEq, ↓reduceIte, vpL, vsL, vqL, Tryb28_2, Tryr28_2, Tryr28_3, Tryr28_4, f0, f12, f13, hlt', e1, e2 g rfl]
        rw [k1 _ _ (by simp only [vmL, Nat.reduceEqDiff, reduceCtorEq, ↓reduceIte, vpL, vsL, vqL]) (by simp only [vmL, Nat.reduceEqDiff, reduceCtorEq, ↓reduceIte, vpL, vsL, vqL])]
        simp (disch := omega) only [vmL, Nat.reduceEqDiff, reduceCtorEq, ↓reduceIte, vpL, vsL, vqL, Tryr28_6]
        exact ⟨by simp only [vmL, Nat.reduceEqDiff, reduceCtorEq, ↓reduceIte, vpL, vsL, vqL], by simp only [vmL, Nat.reduceEqDiff, reduceCtorEq, ↓reduceIte, vpL, vsL, vqL], hp, rfl⟩
    · have hlt' : ¬ (k : Int) < (lits.length : Int) := by omega
      simp (disch := omega) only [vmL, Nat.reduceEqDiff, reduceCtorEq, ↓reduceIte, vpL, vsL, vqL, Tryb28_2, Tryr28_2, f12, f13, hlt']
      have : lits.drop k = [] := List.drop_eq_nil_of_le (by omega)
      rw [this] at hp
      refine ⟨rfl, by simp only [vmL, Nat.reduceEqDiff, reduceCtorEq, ↓reduceIte, vpL, vsL, vqL, f0], by simp only [vmL, Nat.reduceEqDiff, reduceCtorEq, ↓reduceIte, vpL, vsL, vqL, f1], ?_, rfl⟩
      rw [hp]; unfold placesM; cases (t0 :: ts).drop k <;> rfl
  · rintro fr g ⟨f0, f1, hp, rfl⟩
    obtain ⟨g1, e1⟩ : ∃ g1, g1 = g.new (.cells (.rw tP true) [vt, vl, .int .i64 0, .int .i64 0]) := ⟨_, rfl⟩
    have c1 : Ch (fun _ => False) g g1 := by rw [e1]; exact Ch.new _ _ _
    have n1 : g1.next.nat = g.next.nat + 1 := by rw [e1]; exact new_next_nat _ _
    have p1 : PSt g.next.nat (t0 :: ts) lits g1 g.next ⟨t0, lits.zip ts⟩ :=
      ⟨Nat.le_refl _, by omega, ⟨vt, vl, 0, 0, t0, by rw [e1]; exact new_self _ _, ht.ch c1 (Nat.le_refl _) fun _ _ q => q, hl.ch c1 (Nat.le_refl _) fun _ _ q => q, hn, rfl, Nat.zero_le _, rfl, rfl⟩, small⟩
    obtain ⟨r, g2, e36, c2, hq⟩ := words_ok (word_ok (b := g.next.nat) (texts := t0 :: ts) (lits := lits) (n := 8) (m := 20) (deep := 0) (by omega) (by omega) (by omega)) p1 hz0
    replace e36 : TryF36r [.ptr g.next 0, .int .i64 0] g1 = .ok r g2 := e36
    have c02 : Ch (fun _ => False) g g2 := c1.trans c2 fun j hj q => by rw [q] at hj; omega
    have bx : ∀ l, oBox tP (.agg (.cons vt (.cons vl (.cons (.int .i64 0) (.cons (.int .i64 0) .nil))))) g = .ok l g1 ↔ l = .ptr g.next 0 := fun l => by rw [oBox_agg, e1]; exact ⟨fun e => by cases e; rfl, fun e => by rw [e]; rfl⟩
    have bx' := (bx _).2 rfl
    have hpm : parseM (t0 :: ts) lits = (match loopW (wordM 8) (St.size ⟨t0, lits.zip ts⟩ + 1) ⟨t0, lits.zip ts⟩ with
      | some (ws, st) => if st.cur = [] ∧ st.rest = [] then some ws else none
      | none => none) := by unfold parseM; simp only []; rw [if_pos hp]; rfl
    rcases hq with ⟨hno, rfl⟩ | ⟨ws, st, v, hm, rfl, p2, wr⟩
    · rw [hno] at hpm
      simp (disch := omega) only [vmL, Nat.reduceEqDiff, reduceCtorEq, ↓reduceIte, vpL, vsL, vqL, Tryr28_8, Tryr28_9, Tryr28_10, f0, f1, oBuild_p ht.cell hl.cell, bx', e36, two]
      exact Tells.ret (by simp only [resK, vmL, Nat.reduceEqDiff, reduceCtorEq, ↓reduceIte, vpL, vsL, vqL, tupR]; rfl) ⟨c02, .inl ⟨hpm, .nils, rfl⟩⟩
    · rw [hm] at hpm
      simp only [] at hpm
      have er := rest_ok p2
      obtain ⟨vt', vl', piece, pos, t, hg, ht', hl', hn', hpc, hpos, hc, hr⟩ := p2.is
      have L2 : oLoad1 (.ptr g.next 2) g2 = .ok (.int .i64 (piece : Int)) g2 := ld_get hg 2
      have hpl : piece < (t0 :: ts).length := (List.getElem?_eq_some_iff.1 hpc).1
      have hrest : st.rest = [] ↔ (piece : Int) = (lits.length : Int) := by
        rw [hr, ← List.length_eq_zero_iff, List.length_zip, List.length_drop, List.length_drop]
        omega
      have hlc : oLenK 2 vl g2 = .ok (.int .i64 (lits.length : Int)) g2 := hl.length
      by_cases h0 : st.cur = []
      · by_cases h1 : st.rest = []
        · rw [if_pos ⟨h0, h1⟩] at hpm
          simp (disch := omega) only [vmL, Nat.reduceEqDiff, reduceCtorEq, ↓reduceIte, vpL, vsL, vqL, Tryr28_8, Tryr28_9, Tryr28_10, f0, f1, oBuild_p ht.cell hl.cell, bx', e36, two, er, h0, L2, hlc, eq_true (hrest.1 h1)]
          refine Tells.ret (by simp only [resK, vmL, Nat.reduceEqDiff, reduceCtorEq, ↓reduceIte, vpL, vsL, vqL, tupR]; rfl) ⟨c02, .inr ⟨ws, v, hpm, rfl, WRow.ch wr (Ch.refl (fun _ => False) _) fun j hj q => ⟨by omega, fun e => e⟩⟩⟩
        · rw [if_neg fun q => h1 q.2] at hpm
          have h1' : ¬ (piece : Int) = (lits.length : Int) := fun q => h1 (hrest.2 q)
          simp (disch := omega) only [vmL, Nat.reduceEqDiff, reduceCtorEq, ↓reduceIte, vpL, vsL, vqL, Tryr28_8, Tryr28_9, Tryr28_10, f0, f1, oBuild_p ht.cell hl.cell, bx', e36, two, er, h0, L2, hlc, h1']
          exact Tells.ret (by simp only [resK, vmL, Nat.reduceEqDiff, reduceCtorEq, ↓reduceIte, vpL, vsL, vqL, tupR]; rfl) ⟨c02, .inl ⟨hpm, v, rfl⟩⟩
      · rw [if_neg fun q => h0 q.1] at hpm
        simp (disch := omega) only [vmL, Nat.reduceEqDiff, reduceCtorEq, ↓reduceIte, vpL, vsL, vqL, Tryr28_8, Tryr28_9, Tryr28_10, f0, f1, oBuild_p ht.cell hl.cell, bx', e36, two, er, h0]
        exact Tells.ret (by simp only [resK, vmL, Nat.reduceEqDiff, reduceCtorEq, ↓reduceIte, vpL, vsL, vqL, tupR]; rfl) ⟨c02, .inl ⟨hpm, v, rfl⟩⟩
  · rintro fr g ⟨f4, f5, hp, rfl⟩
    refine Tells.ret (by simp only [resK, f4, f5, tupR]; rfl) ⟨Ch.refl _ _, .inl ⟨?_, .nils, rfl⟩⟩
    unfold parseM; simp only []; rw [hp]; rfl
end Go.Proofs.Im
