/- Part of the value machine, or of a walk by it: lemmas that the claim's last text uses. No conditions. -/
import Derived.Test.YtgnfkfmhjgbhhaaChecked
import Derived.KernelRfl
import Derived.Test.YtgnfkfmhjgbhhaaLineFeedsA
import Derived.Test.YtgnfkfmhjgbhhaaLinePiecesA
set_option linter.unusedVariables false
set_option linter.unusedSimpArgs false
set_option linter.unnecessarySimpa false
noncomputable section
namespace Go.Proofs.Ytgnfkfmhjgbhhaa
open Go Go.Proofs Go.Vm Go.Ln
set_option linter.unusedVariables false
set_option maxRecDepth 100000
set_option linter.unusedSimpArgs false
/-- the reference's number -/
theorem rnum_ok {s : List Nat} (hl : s.length < 1000000000) (h : Hp) : TryF38 [.str s] h = .ok (numV s) h := by
  rw [TryF38_eq]
  have : Tells Try.prog [.tmp 2, .tmp 3] (fun r h' => r = numV s ∧ h' = h) (Tryd38 (T.set (some (.str s)) (Pos.of 0) T.nil) h) := by
    by_cases h0 : s = []
    · subst h0
      simp (disch := omega) only [seqO_eq, thenO_nor, thenO_ret, gtO_some, bndO_ok, get_set_of, cndX_tmp, ifB_true, reduceCtorEq, ↓reduceIte, oBin_gtr, oBin_str_eql, oLenK_str, decide_true, Tryd38, Tryr38_0, Tryr38_1, Tryr38_2]
      exact Tells.ret (by simp only [resK, get_set_of, Nat.reduceEqDiff, ↓reduceIte, tupR]; rfl) ⟨(numM_no (.inl rfl)).symm, rfl⟩
    by_cases h1 : s.length > 10
    · have h1' : (s.length : Int) > 10 := by omega
      simp (disch := omega) only [seqO_eq, thenO_nor, thenO_ret, gtO_some, bndO_ok, get_set_of, cndX_tmp, ifB_true, ifB_false, ifB_pos, reduceCtorEq, ↓reduceIte, oBin_gtr, oBin_str_eql, oLenK_str, decide_true, decide_false, Tryd38, Tryr38_0, Tryr38_1, Tryr38_2, h0, h1']
      exact Tells.ret (by simp only [resK, get_set_of, Nat.reduceEqDiff, ↓reduceIte, tupR]; rfl) ⟨(numM_no (.inr (.inl h1))).symm, rfl⟩
    have h1' : ¬ (s.length : Int) > 10 := by omega
    have hpos : 0 < s.length := List.length_pos_iff.2 h0
    have hhd : s.head? = some s[0] := by rw [List.head?_eq_getElem?, List.getElem?_eq_getElem hpos]
    have ix0 : ∀ h, oIdxStr (.str s) (.int .i64 0) h = .ok (.int .u8 (s[0] : Int)) h := fun h => oIdxStr_lit0 (List.getElem?_eq_getElem hpos)
    have goal : ¬ (s.head? = some 48 ∧ s.length > 1) → ∀ fr : F, fr.get (Pos.of 0) = some (.str s) → Tells Try.prog [.tmp 2, .tmp 3] (fun r h' => r = numV s ∧ h' = h) ((seqO Tryr38_3 (seqO (seqO Tryr38_4 (blkO 0 (loopO Tryb38_5 lf))) (seqO (seqO Tryr38_10 (cndX (.tmp 48) (seqO Tryr38_11 Out.ret) Out.nor)) (seqO Tryr38_12 Out.ret)))) fr h) := by
      intro h2 fr0 f00
      simp (disch := omega) only [seqO_eq, thenO_nor, blkO_eq, Tryr38_3, Tryr38_4]
      refine Oc.then (loop_rule (n := s.length) (fun m fr g => ∃ k : Nat, fr.get (Pos.of 0) = some (.str s) ∧ fr.get (Pos.of 5) = some (.int .i64 (k : Int)) ∧ fr.get (Pos.of 4) = some (.int .i64 (digs (s.take k) : Int)) ∧ k + m = s.length ∧ (∀ c ∈ s.take k, 48 ≤ c ∧ c ≤ 57) ∧ g = h)
        (A := fun fr g => fr.get (Pos.of 4) = some (.int .i64 (digs s : Int)) ∧ (∀ c ∈ s, 48 ≤ c ∧ c ≤ 57) ∧ g = h) (B := fun fr g => fr.get (Pos.of 2) = some (.int .i64 0) ∧ fr.get (Pos.of 3) = some (.bool false) ∧ ¬ (∀ c ∈ s, 48 ≤ c ∧ c ≤ 57) ∧ g = h) (by rw [lf_eq]; omega) ?_ ?_) ?_ ?_
      · exact ⟨0, by simp only [get_set_of, reduceCtorEq, ↓reduceIte, f00], by simp only [get_set_of, ↓reduceIte]; rfl, by simp only [get_set_of, Nat.reduceEqDiff, ↓reduceIte]; rfl, by omega, fun c hc => by simp at hc, rfl⟩
      · rintro m fr g ⟨k, f0, f5, f4, hk, hall, rfl⟩
        by_cases hlt : k < s.length
        · have hlt' : (k : Int) < (s.length : Int) := by omega
          have hc : s[k]? = some s[k] := List.getElem?_eq_getElem hlt
          have ix : ∀ h, oIdxStr (.str s) (.int .i64 (k : Int)) h = .ok (.int .u8 (s[k] : Int)) h := fun h => oIdxStr_ok hc
          have hbd := digs_lt k (s.take k) (by rw [List.length_take]; omega) (by omega) hall
          have hbd' : digs (s.take k) < 10 ^ 10 := Nat.lt_of_lt_of_le hbd (Nat.pow_le_pow_right (by omega) (by rw [List.length_take]; omega))
          by_cases hd1 : s[k] < 48
          · have hd1' : ((s[k] : Nat) : Int) < 48 := by omega
            simp (disch := omega) only [seqO_eq, thenO_nor, thenO_ret, gtO_some, bndO_ok, get_set_of, cndX_tmp, ifB_true, blkO_eq, blkX_ret, Nat.reduceEqDiff, reduceCtorEq, ↓reduceIte, oBin_lss, oBin_gtr, oLenK_str, decide_true, Tryb38_5, Tryr38_5, Tryr38_7, Tryr38_8, f0, f5, hlt', ix, hd1']
            exact ⟨by simp only [get_set_of, Nat.reduceEqDiff, ↓reduceIte], by simp only [get_set_of, ↓reduceIte], fun q => by have := q _ (List.mem_of_getElem? hc); omega, rfl⟩
          · have hd1' : ¬ ((s[k] : Nat) : Int) < 48 := by omega
            by_cases hd2 : s[k] > 57
            · have hd2' : ((s[k] : Nat) : Int) > 57 := by omega
              simp (disch := omega) only [seqO_eq, thenO_nor, thenO_ret, gtO_some, bndO_ok, get_set_of, cndX_tmp, ifB_true, ifB_false, blkO_eq, blkX_ret, Nat.reduceEqDiff, reduceCtorEq, ↓reduceIte, oBin_lss, oBin_gtr, oLenK_str, decide_true, decide_false, Tryb38_5, Tryr38_5, Tryr38_7, Tryr38_8, f0, f5, hlt', ix, hd1', hd2']
              exact ⟨by simp only [get_set_of, Nat.reduceEqDiff, ↓reduceIte], by simp only [get_set_of, ↓reduceIte], fun q => by have := q _ (List.mem_of_getElem? hc); omega, rfl⟩
            · have hd2' : ¬ ((s[k] : Nat) : Int) > 57 := by omega
              simp (disch := omega) only [seqO_eq, thenO_nor, gtO_some, bndO_ok, get_set_of, cndX_tmp, ifB_true, ifB_false, blkO_eq, blkX_nor, Nat.reduceEqDiff, reduceCtorEq, ↓reduceIte, oBin_add, oBin_lss, oBin_gtr, oConvInt_i64, oLenK_str, decide_true, decide_false, Tryb38_5, Tryr38_5, Tryr38_7, Tryr38_9, Tryr38_6, f0, f5, f4, hlt', ix, hd1', hd2', oBin_mul, oBin_digit]
              refine ⟨m - 1, by omega, k + 1, by simp only [get_set_of, reduceCtorEq, ↓reduceIte, f0], by simp only [get_set_of, ↓reduceIte]; rfl, ?_, by omega, fun d hd => ?_, rfl⟩
              · simp only [get_set_of, Nat.reduceEqDiff, ↓reduceIte, Option.some.injEq, V.int.injEq, true_and]
                rw [List.take_add_one, hc, Option.toList_some, digs_snoc]
                omega
              · rw [List.take_add_one, hc] at hd
                rcases List.mem_append.1 hd with hd | hd
                · exact hall d hd
                · simp at hd; omega
        · have hlt' : ¬ (k : Int) < (s.length : Int) := by omega
          have hks : s.take k = s := List.take_of_length_le (by omega)
          rw [hks] at f4 hall
          simp (disch := omega) only [seqO_eq, thenO_nor, thenO_ex, gtO_some, bndO_ok, get_set_of, cndX_tmp, ifB_false, ↓reduceIte, oBin_lss, oLenK_str, decide_false, Tryb38_5, Tryr38_5, f0, f5, hlt']
          exact ⟨rfl, by simp only [get_set_of, Nat.reduceEqDiff, ↓reduceIte, f4], hall, rfl⟩
      · rintro fr g ⟨f4, hall, rfl⟩
        have hy := numM_yes (s := s) (by rintro (q | q | q | q); exact h0 q; exact h1 q; exact h2 q; exact q hall)
        by_cases hz : digs s > 4294967295
        · have hz' : ((digs s : Nat) : Int) > 4294967295 := by omega
          rw [if_pos hz] at hy
          simp (disch := omega) only [seqO_eq, thenO_nor, thenO_ret, gtO_some, bndO_ok, get_set_of, cndX_tmp, ifB_true, ↓reduceIte, oBin_gtr, decide_true, Tryr38_10, Tryr38_11, f4, hz']
          exact Tells.ret (by simp only [resK, get_set_of, Nat.reduceEqDiff, ↓reduceIte, tupR]; rfl) ⟨hy.symm, rfl⟩
        · have hz' : ¬ ((digs s : Nat) : Int) > 4294967295 := by omega
          rw [if_neg hz] at hy
          simp (disch := omega) only [seqO_eq, thenO_nor, gtO_some, bndO_ok, get_set_of, cndX_tmp, ifB_false, Nat.reduceEqDiff, ↓reduceIte, oBin_gtr, decide_false, Tryr38_10, Tryr38_12, f4, hz']
          exact Tells.ret (by simp only [resK, get_set_of, Nat.reduceEqDiff, ↓reduceIte, tupR]; rfl) ⟨hy.symm, rfl⟩
      · rintro fr g ⟨f2, f3, hno, rfl⟩
        exact Tells.ret (by simp only [resK, f2, f3, tupR]; rfl) ⟨(numM_no (.inr (.inr (.inr hno)))).symm, rfl⟩
    by_cases hg : s.length > 1
    · have hg' : (s.length : Int) > 1 := by omega
      by_cases h48 : s[0] = 48
      · have h48' : ((s[0] : Nat) : Int) = 48 := by omega
        simp (disch := omega) only [seqO_eq, thenO_nor, thenO_ret, gtO_some, bndO_ok, get_set_of, cndX_tmp, ifB_true, ifB_false, reduceCtorEq, ↓reduceIte, oBin_eql, oBin_gtr, oBin_str_eql, oLenK_str, decide_true, decide_false, Tryd38, Tryr38_0, Tryr38_1, Tryr38_2, h0, h1', ix0, eq_true h48', hg']
        exact Tells.ret (by simp only [resK, get_set_of, Nat.reduceEqDiff, ↓reduceIte, tupR]; rfl) ⟨(numM_no (.inr (.inr (.inl ⟨by rw [hhd, h48], hg⟩)))).symm, rfl⟩
      · have h48' : ¬ ((s[0] : Nat) : Int) = 48 := by omega
        have k1 := goal (fun q => h48 (by have := q.1; rw [hhd] at this; exact Option.some.inj this))
        have e0 : Tryd38 = seqO Tryr38_0 (seqO (seqO Tryr38_1 (cndX (.tmp 22) (seqO Tryr38_2 Out.ret) Out.nor)) (seqO Tryr38_3 (seqO (seqO Tryr38_4 (blkO 0 (loopO Tryb38_5 lf))) (seqO (seqO Tryr38_10 (cndX (.tmp 48) (seqO Tryr38_11 Out.ret) Out.nor)) (seqO Tryr38_12 Out.ret))))) := rfl
        generalize hR : (seqO Tryr38_3 (seqO (seqO Tryr38_4 (blkO 0 (loopO Tryb38_5 lf))) (seqO (seqO Tryr38_10 (cndX (.tmp 48) (seqO Tryr38_11 Out.ret) Out.nor)) (seqO Tryr38_12 Out.ret)))) = R at k1 e0
        simp (disch := omega) only [seqO_eq, thenO_nor, gtO_some, bndO_ok, get_set_of, cndX_tmp, ifB_true, ifB_false, reduceCtorEq, ↓reduceIte, oBin_eql, oBin_gtr, oBin_str_eql, oLenK_str, decide_true, decide_false, e0, Tryr38_0, Tryr38_1, Tryr38_2, h0, h1', ix0, h48', hg']
        exact k1 _ (by simp only [get_set_of, reduceCtorEq, ↓reduceIte])
    · have hg' : ¬ (s.length : Int) > 1 := by omega
      have k1 := goal (fun q => hg q.2)
      have e0 : Tryd38 = seqO Tryr38_0 (seqO (seqO Tryr38_1 (cndX (.tmp 22) (seqO Tryr38_2 Out.ret) Out.nor)) (seqO Tryr38_3 (seqO (seqO Tryr38_4 (blkO 0 (loopO Tryb38_5 lf))) (seqO (seqO Tryr38_10 (cndX (.tmp 48) (seqO Tryr38_11 Out.ret) Out.nor)) (seqO Tryr38_12 Out.ret))))) := rfl
      generalize hR : (seqO Tryr38_3 (seqO (seqO Tryr38_4 (blkO 0 (loopO Tryb38_5 lf))) (seqO (seqO Tryr38_10 (cndX (.tmp 48) (seqO Tryr38_11 Out.ret) Out.nor)) (seqO Tryr38_12 Out.ret)))) = R at k1 e0
      simp (disch := omega) only [seqO_eq, thenO_nor, gtO_some, bndO_ok, get_set_of, cndX_tmp, ifB_false, reduceCtorEq, ↓reduceIte, oBin_gtr, oBin_str_eql, oLenK_str, decide_false, e0, Tryr38_0, Tryr38_1, Tryr38_2, h0, h1', hg']
      exact k1 _ (by simp only [get_set_of, reduceCtorEq, ↓reduceIte])
  obtain ⟨r, h', e, rfl, rfl⟩ := this
  exact e
theorem oSliceStr_cut {s : List Nat} {m q : Nat} {k k' : IntKind} {h : Hp} (h1 : m ≤ q) (h2 : q ≤ s.length) : oSliceStr (.str s) (some (.int k (m : Int))) (some (.int k' (q : Int))) h = .ok (.str ((s.drop m).take (q - m))) h := by
  show (match Nat.ble q s.length, Nat.ble m q with | true, true => R.ok (V.str (takeN (q - m) (dropN m s))) h | _, _ => .bad) = _
  rw [Nat.ble_eq_true_of_le h1, Nat.ble_eq_true_of_le h2, takeN_eq, dropN_eq]
/-- the reference's look at a text's end -/
def LitQ (t : List Nat) (v : V) : Prop := (markerM t = none ∧ ∃ x y z, v = four x y z (.bool false)) ∨ ∃ a n p, markerM t = some (a, n, p) ∧ v = four (.int .i64 (n : Int)) (.bool p) (.int .i64 (a.length : Int)) (.bool true) ∧ t.take a.length = a ∧ a.length ≤ t.length
theorem rlit_ok {t : List Nat} (hl : t.length < 1000000000) (h : Hp) : ∃ v, TryF29 [.str t] h = .ok v h ∧ LitQ t v := by
  have key : Tells Try.prog [.tmp 2, .tmp 3, .tmp 4, .tmp 5] (fun r h' => LitQ t r ∧ h' = h) (Tryd29 (T.set (some (.str t)) (Pos.of 0) T.nil) h) := by
    have no : ∀ fr : F, fr.get (Pos.of 2) = some (.int .i64 0) → fr.get (Pos.of 3) = some (.bool false) → fr.get (Pos.of 4) = some (.int .i64 0) → fr.get (Pos.of 5) = some (.bool false) → markerM t = none → Tells Try.prog [.tmp 2, .tmp 3, .tmp 4, .tmp 5] (fun r h' => LitQ t r ∧ h' = h) (.ret fr h) := fun fr f2 f3 f4 f5 hm =>
      Tells.ret (by simp only [resK, f2, f3, f4, f5, tupR]; rfl) ⟨.inl ⟨hm, _, _, _, rfl⟩, rfl⟩
    by_cases h0 : t = []
    · subst h0
      simp (disch := omega) only [seqO_eq, thenO_nor, thenO_ret, gtO_some, bndO_ok, get_set_of, cndX_tmp, ifB_true, reduceCtorEq, ↓reduceIte, oBin_sub, oBin_str_eql, oLenK_str, decide_true, Tryd29, Tryr29_0, Tryr29_1, Tryr29_2]
      exact no _ (by simp only [get_set_of, Nat.reduceEqDiff, ↓reduceIte]) (by simp only [get_set_of, Nat.reduceEqDiff, ↓reduceIte]) (by simp only [get_set_of, Nat.reduceEqDiff, ↓reduceIte]) (by simp only [get_set_of, ↓reduceIte]) (markerM_no (by simp))
    have hpos : 0 < t.length := List.length_pos_iff.2 h0
    have hs1 : (t.length : Int) - 1 = ((t.length - 1 : Nat) : Int) := by omega
    have hlast : t.getLast? = some t[t.length - 1] := by rw [List.getLast?_eq_getElem?, List.getElem?_eq_getElem (by omega)]
    have ixl : ∀ h, oIdxStr (.str t) (.int .i64 ((t.length - 1 : Nat) : Int)) h = .ok (.int .u8 (t[t.length - 1] : Int)) h := fun h => oIdxStr_ok (List.getElem?_eq_getElem (by omega))
    by_cases h125 : t[t.length - 1] = 125
    · have h125' : (t[t.length - 1] : Int) = 125 := by omega
      have hend : t.getLast? = some 125 := by rw [hlast, h125]
      simp (disch := omega) only [seqO_eq, thenO_nor, gtO_some, bndO_ok, get_set_of, cndX_tmp, ifB_false, blkO_eq, reduceCtorEq, ↓reduceIte, oBin_sub, oBin_neq, oBin_str_eql, oLenK_str, decide_false, ne_eq, not_true, Tryd29, Tryr29_0, Tryr29_1, Tryr29_3, h0, hs1, ixl, eq_true h125']
      refine Oc.then (loop_rule (n := t.length) (fun m fr g => ∃ k : Int, fr.get (Pos.of 0) = some (.str t) ∧ fr.get (Pos.of 6) = some (.int .i64 k) ∧ -1 ≤ k ∧ k < t.length ∧ (m : Int) = k + 1 ∧ (∀ j (hj : j < t.length), k < j → t[j] ≠ 123) ∧ g = h ∧ fr.get (Pos.of 2) = some (.int .i64 0) ∧ fr.get (Pos.of 3) = some (.bool false) ∧ fr.get (Pos.of 4) = some (.int .i64 0) ∧ fr.get (Pos.of 5) = some (.bool false))
        (A := fun fr g => ∃ k : Int, fr.get (Pos.of 0) = some (.str t) ∧ fr.get (Pos.of 6) = some (.int .i64 k) ∧ -1 ≤ k ∧ k < t.length ∧ (∀ j (hj : j < t.length), k < j → t[j] ≠ 123) ∧ (∀ m : Nat, (m : Int) = k → t[m]? = some 123) ∧ g = h ∧ fr.get (Pos.of 2) = some (.int .i64 0) ∧ fr.get (Pos.of 3) = some (.bool false) ∧ fr.get (Pos.of 4) = some (.int .i64 0) ∧ fr.get (Pos.of 5) = some (.bool false)) (B := fun _ _ => False) (by rw [lf_eq]; omega) ?_ ?_) ?_ ?_
      · refine ⟨((t.length - 1 : Nat) : Int), by simp only [get_set_of, reduceCtorEq, ↓reduceIte], by simp only [get_set_of, ↓reduceIte], by omega, by omega, by omega, fun j hj hk => by omega, rfl, by simp only [get_set_of, Nat.reduceEqDiff, ↓reduceIte], by simp only [get_set_of, Nat.reduceEqDiff, ↓reduceIte], by simp only [get_set_of, Nat.reduceEqDiff, ↓reduceIte], by simp only [get_set_of, Nat.reduceEqDiff, ↓reduceIte]⟩
      · rintro m fr g ⟨k, f0, f6, k1, k2, hm, hno, rfl, f2, f3, f4, f5⟩
        by_cases hk : k ≥ 0
        · obtain ⟨q, rfl⟩ : ∃ q : Nat, k = (q : Int) := ⟨k.toNat, by omega⟩
          have hq : q < t.length := by omega
          have ix : ∀ h, oIdxStr (.str t) (.int .i64 (q : Int)) h = .ok (.int .u8 (t[q] : Int)) h := fun h => oIdxStr_ok (List.getElem?_eq_getElem hq)
          by_cases h123 : t[q] = 123
          · have h123' : (t[q] : Int) = 123 := by omega
            simp (disch := omega) only [seqO_eq, thenO_nor, thenO_ex, gtO_some, bndO_ok, get_set_of, cndX_tmp, ifB_true, ifB_false, ↓reduceIte, oBin_neq, oBin_geq, decide_true, decide_false, ne_eq, not_true, Tryb29_4, Tryr29_4, f0, f6, hk, ix, eq_true h123']
            exact ⟨rfl, q, by simp only [get_set_of, reduceCtorEq, ↓reduceIte, f0], by simp only [get_set_of, Nat.reduceEqDiff, ↓reduceIte, f6], k1, k2, hno, fun m' hm' => by rw [show m' = q by omega, List.getElem?_eq_getElem hq, h123], rfl, by simp only [get_set_of, Nat.reduceEqDiff, ↓reduceIte, f2], by simp only [get_set_of, Nat.reduceEqDiff, ↓reduceIte, f3], by simp only [get_set_of, Nat.reduceEqDiff, ↓reduceIte, f4], by simp only [get_set_of, Nat.reduceEqDiff, ↓reduceIte, f5]⟩
          · have h123' : ¬ (t[q] : Int) = 123 := by omega
            simp (disch := omega) only [seqO_eq, thenO_nor, gtO_some, bndO_ok, get_set_of, cndX_tmp, ifB_true, blkO_eq, blkX_nor, Nat.reduceEqDiff, ↓reduceIte, oBin_sub, oBin_neq, oBin_geq, decide_true, ne_eq, not_false_eq_true, Tryb29_4, Tryr29_4, Tryr29_5, f0, f6, hk, ix, h123']
            refine ⟨m - 1, by omega, (q : Int) - 1, by simp only [get_set_of, reduceCtorEq, ↓reduceIte, f0], by simp only [get_set_of, ↓reduceIte], by omega, by omega, by omega, fun j hj hkj => ?_, rfl, by simp only [get_set_of, Nat.reduceEqDiff, ↓reduceIte, f2], by simp only [get_set_of, Nat.reduceEqDiff, ↓reduceIte, f3], by simp only [get_set_of, Nat.reduceEqDiff, ↓reduceIte, f4], by simp only [get_set_of, Nat.reduceEqDiff, ↓reduceIte, f5]⟩
            by_cases hjq : j = q
            · subst hjq; exact h123
            · exact hno j hj (by omega)
        · simp (disch := omega) only [seqO_eq, thenO_nor, thenO_ex, gtO_some, bndO_ok, get_set_of, cndX_tmp, ifB_false, ↓reduceIte, oBin_geq, decide_false, ne_eq, Tryb29_4, Tryr29_4, f6, hk]
          exact ⟨rfl, k, by simp only [get_set_of, reduceCtorEq, ↓reduceIte, f0], by simp only [get_set_of, Nat.reduceEqDiff, ↓reduceIte, f6], k1, k2, hno, fun m' hm' => by omega, rfl, by simp only [get_set_of, Nat.reduceEqDiff, ↓reduceIte, f2], by simp only [get_set_of, Nat.reduceEqDiff, ↓reduceIte, f3], by simp only [get_set_of, Nat.reduceEqDiff, ↓reduceIte, f4], by simp only [get_set_of, Nat.reduceEqDiff, ↓reduceIte, f5]⟩
      · rintro fr g ⟨k, f0, f6, k1, k2, hno, hat, rfl, f2, f3, f4, f5⟩
        have hdl : t.dropLast.length = t.length - 1 := List.length_dropLast
        by_cases hk : k < 0
        · simp (disch := omega) only [seqO_eq, thenO_nor, thenO_ret, gtO_some, bndO_ok, get_set_of, cndX_tmp, ifB_true, ↓reduceIte, oBin_lss, decide_true, Tryr29_6, Tryr29_7, f6, hk]
          refine no _ (by simp only [get_set_of, Nat.reduceEqDiff, ↓reduceIte]) (by simp only [get_set_of, Nat.reduceEqDiff, ↓reduceIte]) (by simp only [get_set_of, Nat.reduceEqDiff, ↓reduceIte]) (by simp only [get_set_of, ↓reduceIte]) ?_
          have hl0 : lastM 123 t.dropLast = none := Go.Ln.lastM_none fun x hx => by
            obtain ⟨j, hj, rfl⟩ := List.getElem_of_mem hx
            rw [List.getElem_dropLast]
            exact hno j (by omega) (by omega)
          unfold markerM
          rw [if_pos hend, hl0]
        · obtain ⟨q, rfl⟩ : ∃ q : Nat, k = (q : Int) := ⟨k.toNat, by omega⟩
          have hq : q < t.length := by omega
          have hq123 : t[q] = 123 := by
            have := hat q rfl
            rw [List.getElem?_eq_getElem hq] at this
            exact Option.some.inj this
          have hq1 : q < t.length - 1 := by
            rcases Nat.lt_or_ge q (t.length - 1) with h1 | h1
            · exact h1
            · have : q = t.length - 1 := by omega
              subst this
              rw [h125] at hq123; omega
          have hlm : lastM 123 t.dropLast = some q := by
            have e1 : t.dropLast = t.dropLast.take q ++ 123 :: t.dropLast.drop (q + 1) := by
              have hqd : q < t.dropLast.length := by omega
              have e2 := List.drop_eq_getElem_cons hqd
              rw [List.getElem_dropLast, hq123] at e2
              rw [← e2, List.take_append_drop]
            rw [e1, lastM_at]
            · rw [List.length_take]; congr 1; omega
            · intro x hx
              obtain ⟨j, hj, rfl⟩ := List.getElem_of_mem hx
              rw [List.getElem_drop, List.getElem_dropLast]
              rw [List.length_drop] at hj
              exact hno _ (by omega) (by omega)
          obtain ⟨d, hd⟩ : ∃ d, d = t.dropLast.drop (q + 1) := ⟨_, rfl⟩
          have hdlen : d.length < 1000000000 := by rw [hd, List.length_drop]; omega
          have kz : ¬ ((q : Int) < 0) := by omega
          have q1e : ((q : Int) + 1) = ((q + 1 : Nat) : Int) := by omega
          have sl : ∀ h, oSliceStr (.str t) (some (.int .i64 ((q + 1 : Nat) : Int))) (some (.int .i64 ((t.length - 1 : Nat) : Int))) h = .ok (.str d) h := fun h => by
            rw [oSliceStr_cut (by omega) (by omega), hd]
            congr 2
            rw [List.dropLast_eq_take, List.drop_take]
          have atk : t.take (t.take q).length = t.take q ∧ (t.take q).length ≤ t.length := by
            rw [List.length_take]
            exact ⟨by congr 1; omega, by omega⟩
          have alen : (t.take q).length = q := by rw [List.length_take]; omega
          -- the number, with or without the sign
          have fin : ∀ (plus : Bool) (d' : List Nat), d'.length < 1000000000 → (markerM t = (match numM d' with | some n => some (t.take q, n, plus) | none => none)) → ∀ fr : F, fr.get (Pos.of 7) = some (.str d') → fr.get (Pos.of 8) = some (.bool plus) → fr.get (Pos.of 6) = some (.int .i64 (q : Int)) →
              Tells Try.prog [.tmp 2, .tmp 3, .tmp 4, .tmp 5] (fun r h' => LitQ t r ∧ h' = g) ((seqO Tryr29_12 (seqO Tryr29_13 Out.ret)) fr g) := fun plus d' hl' hmk fr f7 f8 f6 => by
            have nm := rnum_ok (s := d') hl' g
            cases hn : numM d' with
            | none =>
              rw [numV, hn] at nm
              rw [hn] at hmk
              simp (disch := omega) only [seqO_eq, thenO_nor, gtO_some, bndO_ok, get_set_of, Nat.reduceEqDiff, ↓reduceIte, oExtract_0, oExtract_1, Tryr29_12, Tryr29_13, f6, f7, f8, nm, two]
              exact Tells.ret (by simp only [resK, get_set_of, Nat.reduceEqDiff, ↓reduceIte, tupR]; rfl) ⟨.inl ⟨hmk, _, _, _, rfl⟩, rfl⟩
            | some n =>
              rw [numV, hn] at nm
              rw [hn] at hmk
              simp (disch := omega) only [seqO_eq, thenO_nor, gtO_some, bndO_ok, get_set_of, Nat.reduceEqDiff, ↓reduceIte, oExtract_0, oExtract_1, Tryr29_12, Tryr29_13, f6, f7, f8, nm, two]
              exact Tells.ret (by simp only [resK, get_set_of, Nat.reduceEqDiff, ↓reduceIte, tupR]; rfl) ⟨.inr ⟨t.take q, n, plus, hmk, by rw [alen]; rfl, atk.1, atk.2⟩, rfl⟩
          have hmk : markerM t = (if d.getLast? = some 43
              then (match numM d.dropLast with | some n => some (t.take q, n, true) | none => none)
              else (match numM d with | some n => some (t.take q, n, false) | none => none)) := by
            unfold markerM
            rw [if_pos hend, hlm]
            simp only [← hd]
            by_cases hc : d.getLast? = some 43
            · rw [if_pos hc, if_pos hc]
              cases numM d.dropLast <;> rfl
            · rw [if_neg hc, if_neg hc]
              cases numM d <;> rfl
          by_cases hd0 : d = []
          · rw [hd0] at hmk
            have k1 := fin false [] (by simp) (by simpa using hmk)
            rw [hd0] at sl
            simp (disch := omega) only [seqO_eq, thenO_nor, gtO_some, bndO_ok, get_set_of, cndX_tmp, ifB_false, Nat.reduceEqDiff, reduceCtorEq, ↓reduceIte, oBin_add, oBin_sub, oBin_lss, oBin_str_neq, oLenK_str, decide_false, ne_eq, not_true, Tryr29_6, Tryr29_8, Tryr29_9, Tryr29_10, f0, f6, kz, q1e, hs1, sl]
            exact k1 _ (by simp only [get_set_of, Nat.reduceEqDiff, ↓reduceIte]) (by simp only [get_set_of, Nat.reduceEqDiff, ↓reduceIte]) (by simp only [get_set_of, Nat.reduceEqDiff, ↓reduceIte, f6])
          · have hdp : 0 < d.length := List.length_pos_iff.2 hd0
            have hds : (d.length : Int) - 1 = ((d.length - 1 : Nat) : Int) := by omega
            have hdl2 : d.getLast? = some d[d.length - 1] := by rw [List.getLast?_eq_getElem?, List.getElem?_eq_getElem (by omega)]
            have ixd : ∀ h, oIdxStr (.str d) (.int .i64 ((d.length - 1 : Nat) : Int)) h = .ok (.int .u8 (d[d.length - 1] : Int)) h := fun h => oIdxStr_ok (List.getElem?_eq_getElem (by omega))
            by_cases h43 : d[d.length - 1] = 43
            · have h43' : (d[d.length - 1] : Int) = 43 := by omega
              rw [if_pos (by rw [hdl2, h43])] at hmk
              have k1 := fin true d.dropLast (by rw [List.length_dropLast]; omega) hmk
              have sl2 : ∀ h, oSliceStr (.str d) none (some (.int .i64 ((d.length - 1 : Nat) : Int))) h = .ok (.str d.dropLast) h := fun h => by
                rw [List.dropLast_eq_take]; exact oSliceStr_to (by omega)
              simp (disch := omega) only [seqO_eq, thenO_nor, gtO_some, bndO_ok, get_set_of, cndX_tmp, ifB_true, ifB_false, Nat.reduceEqDiff, reduceCtorEq, ↓reduceIte, oBin_add, oBin_sub, oBin_eql, oBin_lss, oBin_str_neq, oLenK_str, decide_true, decide_false, ne_eq, not_false_eq_true, Tryr29_6, Tryr29_8, Tryr29_9, Tryr29_10, Tryr29_11, f0, f6, kz, q1e, hs1, sl, hd0, hds, ixd, eq_true h43', sl2]
              exact k1 _ (by simp only [get_set_of, ↓reduceIte]) (by simp only [get_set_of, Nat.reduceEqDiff, ↓reduceIte]) (by simp only [get_set_of, Nat.reduceEqDiff, ↓reduceIte, f6])
            · have h43' : ¬ (d[d.length - 1] : Int) = 43 := by omega
              rw [if_neg (by rw [hdl2]; exact fun e => h43 (Option.some.inj e))] at hmk
              have k1 := fin false d hdlen hmk
              simp (disch := omega) only [seqO_eq, thenO_nor, gtO_some, bndO_ok, get_set_of, cndX_tmp, ifB_true, ifB_false, Nat.reduceEqDiff, reduceCtorEq, ↓reduceIte, oBin_add, oBin_sub, oBin_eql, oBin_lss, oBin_str_neq, oLenK_str, decide_true, decide_false, ne_eq, not_false_eq_true, Tryr29_6, Tryr29_8, Tryr29_9, Tryr29_10, f0, f6, kz, q1e, hs1, sl, hd0, hds, ixd, h43']
              exact k1 _ (by simp only [get_set_of, Nat.reduceEqDiff, ↓reduceIte]) (by simp only [get_set_of, Nat.reduceEqDiff, ↓reduceIte]) (by simp only [get_set_of, Nat.reduceEqDiff, ↓reduceIte, f6])
      · rintro fr g q
        exact q.elim
    · have h125' : ¬ (t[t.length - 1] : Int) = 125 := by omega
      simp (disch := omega) only [seqO_eq, thenO_nor, thenO_ret, gtO_some, bndO_ok, get_set_of, cndX_tmp, ifB_true, ifB_false, reduceCtorEq, ↓reduceIte, oBin_sub, oBin_neq, oBin_str_eql, oLenK_str, decide_true, decide_false, ne_eq, not_false_eq_true, Tryd29, Tryr29_0, Tryr29_1, Tryr29_2, h0, hs1, ixl, h125']
      exact no _ (by simp only [get_set_of, Nat.reduceEqDiff, ↓reduceIte]) (by simp only [get_set_of, Nat.reduceEqDiff, ↓reduceIte]) (by simp only [get_set_of, Nat.reduceEqDiff, ↓reduceIte]) (by simp only [get_set_of, ↓reduceIte]) (markerM_no (by rw [hlast]; exact fun e => h125 (Option.some.inj e)))
  rw [TryF29_eq]
  obtain ⟨r, h', e, hq, rfl⟩ := key
  exact ⟨r, e, hq⟩
end Go.Proofs.Ytgnfkfmhjgbhhaa

noncomputable section
namespace Go.Vm
variable {h : Hp}
theorem oBuild_e (c : Nat) : oBuild [.int .u8 0, .bool false, .str []] [(0, 1, .int .u8 (c : Int))] h = .ok (.agg (.cons (.int .u8 (c : Int)) (.cons (.bool false) (.cons (.str []) .nil)))) h := (rfl)
theorem oBuild_l (t : List Nat) : oBuild [.int .u8 0, .bool false, .str []] [(1, 1, .bool true), (2, 1, .str t)] h = .ok (.agg (.cons (.int .u8 0) (.cons (.bool true) (.cons (.str t) .nil)))) h := (rfl)
theorem aBuildSlice_e (x y z : V) : aBuildSlice [.int .u8 0, .bool false, .str []] 1 [(0, 3, .agg (.cons x (.cons y (.cons z .nil))))] = some (.cells true [x, y, z], fun p => .slice p 0 1 (.kn 1)) := (rfl)
theorem oBuild_rr (most : Int) : oBuild [.int .i64 0, .nils, .nils, .int .i64 0, .int .i64 0, .int .i64 0, .nils, .bool false, .int .i64 0, .bool false] [(0, 1, .int .i64 most)] h =
    .ok (.agg (.cons (.int .i64 most) (.cons .nils (.cons .nils (.cons (.int .i64 0) (.cons (.int .i64 0) (.cons (.int .i64 0) (.cons .nils (.cons (.bool false) (.cons (.int .i64 0) (.cons (.bool false) .nil))))))))))) h := (rfl)
theorem oBuild_rp {v : V} (hv : v.cells = [v] ∧ notTuple v = true) : oBuild [.nils, .int .i64 0, .bool false] [(0, 1, v)] h = .ok (.agg (.cons v (.cons (.int .i64 0) (.cons (.bool false) .nil)))) h := by
  unfold oBuild
  simp only [fillP, hv.1, hv.2]
  rfl
end Go.Vm
namespace Go.Ln
/-- the reference's reader -/
structure Rr where
  now : List Nat := []
  els : List El := []
  long : Nat := 0
  wide : Nat := 0
  want : Nat := 0
  lit : List Nat := []
  on : Bool := false
  skip : Nat := 0
  line : Bool := false
end Go.Ln
namespace Go.Proofs.Ytgnfkfmhjgbhhaa
open Go Go.Proofs Go.Vm Go.Ln
set_option linter.unusedVariables false
set_option maxRecDepth 100000
set_option linter.unusedSimpArgs false
/-- the reference's reader at i -/
structure RrAt (most : Int) (h : Hp) (i : Pos) (r : Rr) (vt vl vq : V) : Prop where
  lt : i.nat < h.next.nat
  get : h.get i = some (.cells true [.int .i64 most, vt, vl, .int .i64 (r.long : Int), .int .i64 (r.wide : Int), .int .i64 (r.want : Int), vq, .bool r.on, .int .i64 (r.skip : Int), .bool r.line])
  t : Own 0 h 1 vt r.now.length (bys r.now)
  l : Own 0 h 3 vl r.els.length (elCs r.els)
  q : Own 0 h 1 vq r.lit.length (bys r.lit)
  ti : idOf vt ≠ some i
  li : idOf vl ≠ some i
  qi : idOf vq ≠ some i
  tl : Sep vt vl
  tq : Sep vt vq
  lq : Sep vl vq
/-- what it holds -/
def RrF (i : Pos) (vt vl vq : V) (j : Pos) : Prop := j = i ∨ idOf vt = some j ∨ idOf vl = some j ∨ idOf vq = some j
variable {most : Int} {h h1 : Hp} {i : Pos} {r : Rr} {vt vl vq v : V}
theorem RrF0 {i j : Pos} (q : RrF i .nils .nils .nils j) : j = i := by
  rcases q with q | q | q | q
  · exact q
  · cases q
  · cases q
  · cases q
theorem RrAt.idlt (a : RrAt most h i r vt vl vq) {j : Pos} (q : RrF i vt vl vq j) : j.nat < h.next.nat := by
  rcases q with q | q | q | q
  · rw [q]; exact a.lt
  · exact (a.t.idlt q).2
  · exact (a.l.idlt q).2
  · exact (a.q.idlt q).2
theorem RrAt.ch {h' : Hp} {S : Pos → Prop} (a : RrAt most h i r vt vl vq) (c : Ch S h h') (hs : ∀ j, RrF i vt vl vq j → ¬ S j) : RrAt most h' i r vt vl vq :=
  ⟨Nat.lt_of_lt_of_le a.lt c.next, by rw [c.get i a.lt (hs i (.inl rfl))]; exact a.get, a.t.ch c fun j hj => hs j (.inr (.inl hj)), a.l.ch c fun j hj => hs j (.inr (.inr (.inl hj))), a.q.ch c fun j hj => hs j (.inr (.inr (.inr hj))),
    a.ti, a.li, a.qi, a.tl, a.tq, a.lq⟩
theorem RrAt.fresh (lt : i.nat < h.next.nat) (get : h.get i = some (.cells true [.int .i64 most, .nils, .nils, .int .i64 0, .int .i64 0, .int .i64 0, .nils, .bool false, .int .i64 0, .bool false])) : RrAt most h i {} .nils .nils .nils :=
  ⟨lt, get, Own.nil _ _ _, Own.nil _ _ _, Own.nil _ _ _, by simp [idOf], by simp [idOf], by simp [idOf], Sep.nil _, Sep.nil _, Sep.nil _⟩
theorem RrAt.upd {r' : Rr} {h' : Hp} (a : RrAt most h i r vt vl vq) (c : Ch (fun j => j = i) h h') (g : h'.get i = some (.cells true [.int .i64 most, vt, vl, .int .i64 (r'.long : Int), .int .i64 (r'.wide : Int), .int .i64 (r'.want : Int), vq, .bool r'.on, .int .i64 (r'.skip : Int), .bool r'.line]))
    (ht : r'.now = r.now) (hl : r'.els = r.els) (hq : r'.lit = r.lit) : RrAt most h' i r' vt vl vq :=
  ⟨Nat.lt_of_lt_of_le a.lt c.next, g, by rw [ht]; exact a.t.ch c fun j hj q => a.ti (q ▸ hj), by rw [hl]; exact a.l.ch c fun j hj q => a.li (q ▸ hj), by rw [hq]; exact a.q.ch c fun j hj q => a.qi (q ▸ hj),
    a.ti, a.li, a.qi, a.tl, a.tq, a.lq⟩
theorem stp_r {h' : Hp} (c : Ch (fun j => j = i) h h') : Stp (RrF i vt vl vq) h (RrF i vt vl vq) h' := ⟨c.mono fun j _ q => .inl q, fun j q => .inl q⟩
theorem RrAt.fld (a : RrAt most h i r vt vl vq) : oLoad1 (.ptr i 0) h = .ok (.int .i64 most) h ∧ oLoad1 (.ptr i 1) h = .ok vt h ∧ oLoad1 (.ptr i 2) h = .ok vl h ∧ oLoad1 (.ptr i 3) h = .ok (.int .i64 (r.long : Int)) h ∧ oLoad1 (.ptr i 4) h = .ok (.int .i64 (r.wide : Int)) h ∧ oLoad1 (.ptr i 5) h = .ok (.int .i64 (r.want : Int)) h ∧ oLoad1 (.ptr i 6) h = .ok vq h ∧ oLoad1 (.ptr i 7) h = .ok (.bool r.on) h ∧ oLoad1 (.ptr i 8) h = .ok (.int .i64 (r.skip : Int)) h ∧ oLoad1 (.ptr i 9) h = .ok (.bool r.line) h :=
  ⟨ld_get a.get 0, ld_get a.get 1, ld_get a.get 2, ld_get a.get 3, ld_get a.get 4, ld_get a.get 5, ld_get a.get 6, ld_get a.get 7, ld_get a.get 8, ld_get a.get 9⟩

theorem RrAt.set_long (a : RrAt most h i r vt vl vq) (n : Nat) : ∃ h', oStore 1 (.ptr i 3) (.int .i64 (n : Int)) h = .ok V.undef h' ∧ RrAt most h' i { r with long := n } vt vl vq ∧ Stp (RrF i vt vl vq) h (RrF i vt vl vq) h' ∧ h'.next = h.next := by
  have c : Ch (fun j => j = i) h (h.put i (some (.cells true [.int .i64 most, vt, vl, .int .i64 (n : Int), .int .i64 (r.wide : Int), .int .i64 (r.want : Int), vq, .bool r.on, .int .i64 (r.skip : Int), .bool r.line]))) := Ch.put (S := fun j => j = i) _ _ rfl
  exact ⟨_, st_get (q := 3) a.get ⟨rfl, rfl⟩ (by simp), a.upd c (put_self _ _ _) rfl rfl rfl, stp_r c, rfl⟩

theorem RrAt.set_wide (a : RrAt most h i r vt vl vq) (n : Nat) : ∃ h', oStore 1 (.ptr i 4) (.int .i64 (n : Int)) h = .ok V.undef h' ∧ RrAt most h' i { r with wide := n } vt vl vq ∧ Stp (RrF i vt vl vq) h (RrF i vt vl vq) h' ∧ h'.next = h.next := by
  have c : Ch (fun j => j = i) h (h.put i (some (.cells true [.int .i64 most, vt, vl, .int .i64 (r.long : Int), .int .i64 (n : Int), .int .i64 (r.want : Int), vq, .bool r.on, .int .i64 (r.skip : Int), .bool r.line]))) := Ch.put (S := fun j => j = i) _ _ rfl
  exact ⟨_, st_get (q := 4) a.get ⟨rfl, rfl⟩ (by simp), a.upd c (put_self _ _ _) rfl rfl rfl, stp_r c, rfl⟩

theorem RrAt.set_want (a : RrAt most h i r vt vl vq) (n : Nat) : ∃ h', oStore 1 (.ptr i 5) (.int .i64 (n : Int)) h = .ok V.undef h' ∧ RrAt most h' i { r with want := n } vt vl vq ∧ Stp (RrF i vt vl vq) h (RrF i vt vl vq) h' ∧ h'.next = h.next := by
  have c : Ch (fun j => j = i) h (h.put i (some (.cells true [.int .i64 most, vt, vl, .int .i64 (r.long : Int), .int .i64 (r.wide : Int), .int .i64 (n : Int), vq, .bool r.on, .int .i64 (r.skip : Int), .bool r.line]))) := Ch.put (S := fun j => j = i) _ _ rfl
  exact ⟨_, st_get (q := 5) a.get ⟨rfl, rfl⟩ (by simp), a.upd c (put_self _ _ _) rfl rfl rfl, stp_r c, rfl⟩

theorem RrAt.set_skip (a : RrAt most h i r vt vl vq) (n : Nat) : ∃ h', oStore 1 (.ptr i 8) (.int .i64 (n : Int)) h = .ok V.undef h' ∧ RrAt most h' i { r with skip := n } vt vl vq ∧ Stp (RrF i vt vl vq) h (RrF i vt vl vq) h' ∧ h'.next = h.next := by
  have c : Ch (fun j => j = i) h (h.put i (some (.cells true [.int .i64 most, vt, vl, .int .i64 (r.long : Int), .int .i64 (r.wide : Int), .int .i64 (r.want : Int), vq, .bool r.on, .int .i64 (n : Int), .bool r.line]))) := Ch.put (S := fun j => j = i) _ _ rfl
  exact ⟨_, st_get (q := 8) a.get ⟨rfl, rfl⟩ (by simp), a.upd c (put_self _ _ _) rfl rfl rfl, stp_r c, rfl⟩

theorem RrAt.set_on (a : RrAt most h i r vt vl vq) (n : Bool) : ∃ h', oStore 1 (.ptr i 7) (.bool n) h = .ok V.undef h' ∧ RrAt most h' i { r with on := n } vt vl vq ∧ Stp (RrF i vt vl vq) h (RrF i vt vl vq) h' ∧ h'.next = h.next := by
  have c : Ch (fun j => j = i) h (h.put i (some (.cells true [.int .i64 most, vt, vl, .int .i64 (r.long : Int), .int .i64 (r.wide : Int), .int .i64 (r.want : Int), vq, .bool n, .int .i64 (r.skip : Int), .bool r.line]))) := Ch.put (S := fun j => j = i) _ _ rfl
  exact ⟨_, st_get (q := 7) a.get ⟨rfl, rfl⟩ (by simp), a.upd c (put_self _ _ _) rfl rfl rfl, stp_r c, rfl⟩

theorem RrAt.set_line (a : RrAt most h i r vt vl vq) (n : Bool) : ∃ h', oStore 1 (.ptr i 9) (.bool n) h = .ok V.undef h' ∧ RrAt most h' i { r with line := n } vt vl vq ∧ Stp (RrF i vt vl vq) h (RrF i vt vl vq) h' ∧ h'.next = h.next := by
  have c : Ch (fun j => j = i) h (h.put i (some (.cells true [.int .i64 most, vt, vl, .int .i64 (r.long : Int), .int .i64 (r.wide : Int), .int .i64 (r.want : Int), vq, .bool r.on, .int .i64 (r.skip : Int), .bool n]))) := Ch.put (S := fun j => j = i) _ _ rfl
  exact ⟨_, st_get (q := 9) a.get ⟨rfl, rfl⟩ (by simp), a.upd c (put_self _ _ _) rfl rfl rfl, stp_r c, rfl⟩

theorem RrAt.set_now {l : List Nat} (a : RrAt most h i r vt vl vq) (x : Ch (fun j => idOf vt = some j) h h1) (o : Own 0 h1 1 v l.length (bys l)) (hv : ∀ j, idOf v = some j → h.next.nat ≤ j.nat) : ∃ h', oStore 1 (.ptr i 1) v h1 = .ok V.undef h' ∧ RrAt most h' i { r with now := l } v vl vq ∧ Stp (RrF i vt vl vq) h (RrF i v vl vq) h' ∧ h'.next = h1.next := by
  have g1 : h1.get i = some (.cells true [.int .i64 most, vt, vl, .int .i64 (r.long : Int), .int .i64 (r.wide : Int), .int .i64 (r.want : Int), vq, .bool r.on, .int .i64 (r.skip : Int), .bool r.line]) := by rw [x.get i a.lt a.ti]; exact a.get
  have hvi : idOf v ≠ some i := fun q => by have := hv i q; have := a.lt; omega
  have hvi' : ∀ j, idOf v = some j → ¬ j = i := fun j hj q => hvi (q ▸ hj)
  have fr : ∀ (w : V), (∀ j, idOf w = some j → j.nat < h.next.nat) → Sep w v := fun w hw j hj q => by have := hw j hj; have := hv j q; omega
  have sep_l := a.tl.symm
  have sep_q := a.tq.symm
  have c1 : Ch (fun j => j = i) h1 (h1.put i (some (.cells true [.int .i64 most, v, vl, .int .i64 (r.long : Int), .int .i64 (r.wide : Int), .int .i64 (r.want : Int), vq, .bool r.on, .int .i64 (r.skip : Int), .bool r.line]))) := Ch.put (S := fun j => j = i) _ _ rfl
  refine ⟨_, st_get (q := 1) g1 o.cell (by simp), ⟨Nat.lt_of_lt_of_le a.lt (Nat.le_trans x.next c1.next), put_self _ _ _, o.ch c1 hvi', (a.l.ch x fun j hj q => sep_l j hj q).ch c1 fun j hj q => a.li (q ▸ hj), (a.q.ch x fun j hj q => sep_q j hj q).ch c1 fun j hj q => a.qi (q ▸ hj),
    hvi, a.li, a.qi, (fr _ fun j hj => (a.l.idlt hj).2).symm, (fr _ fun j hj => (a.q.idlt hj).2).symm, a.lq⟩, ⟨(x.mono (S' := RrF i vt vl vq) fun j _ q => .inr (.inl q)).trans c1 fun j _ q => .inl q, ?_⟩, rfl⟩
  rintro j (q | q | q | q)
  · exact .inl (.inl q)
  · exact .inr (hv j q)
  · exact .inl (.inr (.inr (.inl q)))
  · exact .inl (.inr (.inr (.inr q)))

theorem RrAt.set_els {l : List El} (a : RrAt most h i r vt vl vq) (x : Ch (fun j => idOf vl = some j) h h1) (o : Own 0 h1 3 v l.length (elCs l)) (hv : ∀ j, idOf v = some j → h.next.nat ≤ j.nat) : ∃ h', oStore 1 (.ptr i 2) v h1 = .ok V.undef h' ∧ RrAt most h' i { r with els := l } vt v vq ∧ Stp (RrF i vt vl vq) h (RrF i vt v vq) h' ∧ h'.next = h1.next := by
  have g1 : h1.get i = some (.cells true [.int .i64 most, vt, vl, .int .i64 (r.long : Int), .int .i64 (r.wide : Int), .int .i64 (r.want : Int), vq, .bool r.on, .int .i64 (r.skip : Int), .bool r.line]) := by rw [x.get i a.lt a.li]; exact a.get
  have hvi : idOf v ≠ some i := fun q => by have := hv i q; have := a.lt; omega
  have hvi' : ∀ j, idOf v = some j → ¬ j = i := fun j hj q => hvi (q ▸ hj)
  have fr : ∀ (w : V), (∀ j, idOf w = some j → j.nat < h.next.nat) → Sep w v := fun w hw j hj q => by have := hw j hj; have := hv j q; omega
  have sep_t := a.tl
  have sep_q := a.lq.symm
  have c1 : Ch (fun j => j = i) h1 (h1.put i (some (.cells true [.int .i64 most, vt, v, .int .i64 (r.long : Int), .int .i64 (r.wide : Int), .int .i64 (r.want : Int), vq, .bool r.on, .int .i64 (r.skip : Int), .bool r.line]))) := Ch.put (S := fun j => j = i) _ _ rfl
  refine ⟨_, st_get (q := 2) g1 o.cell (by simp), ⟨Nat.lt_of_lt_of_le a.lt (Nat.le_trans x.next c1.next), put_self _ _ _, (a.t.ch x fun j hj q => sep_t j hj q).ch c1 fun j hj q => a.ti (q ▸ hj), o.ch c1 hvi', (a.q.ch x fun j hj q => sep_q j hj q).ch c1 fun j hj q => a.qi (q ▸ hj),
    a.ti, hvi, a.qi, fr _ fun j hj => (a.t.idlt hj).2, a.tq, (fr _ fun j hj => (a.q.idlt hj).2).symm⟩, ⟨(x.mono (S' := RrF i vt vl vq) fun j _ q => .inr (.inr (.inl q))).trans c1 fun j _ q => .inl q, ?_⟩, rfl⟩
  rintro j (q | q | q | q)
  · exact .inl (.inl q)
  · exact .inl (.inr (.inl q))
  · exact .inr (hv j q)
  · exact .inl (.inr (.inr (.inr q)))

theorem RrAt.set_lit {l : List Nat} (a : RrAt most h i r vt vl vq) (x : Ch (fun j => idOf vq = some j) h h1) (o : Own 0 h1 1 v l.length (bys l)) (hv : ∀ j, idOf v = some j → h.next.nat ≤ j.nat) : ∃ h', oStore 1 (.ptr i 6) v h1 = .ok V.undef h' ∧ RrAt most h' i { r with lit := l } vt vl v ∧ Stp (RrF i vt vl vq) h (RrF i vt vl v) h' ∧ h'.next = h1.next := by
  have g1 : h1.get i = some (.cells true [.int .i64 most, vt, vl, .int .i64 (r.long : Int), .int .i64 (r.wide : Int), .int .i64 (r.want : Int), vq, .bool r.on, .int .i64 (r.skip : Int), .bool r.line]) := by rw [x.get i a.lt a.qi]; exact a.get
  have hvi : idOf v ≠ some i := fun q => by have := hv i q; have := a.lt; omega
  have hvi' : ∀ j, idOf v = some j → ¬ j = i := fun j hj q => hvi (q ▸ hj)
  have fr : ∀ (w : V), (∀ j, idOf w = some j → j.nat < h.next.nat) → Sep w v := fun w hw j hj q => by have := hw j hj; have := hv j q; omega
  have sep_t := a.tq
  have sep_l := a.lq
  have c1 : Ch (fun j => j = i) h1 (h1.put i (some (.cells true [.int .i64 most, vt, vl, .int .i64 (r.long : Int), .int .i64 (r.wide : Int), .int .i64 (r.want : Int), v, .bool r.on, .int .i64 (r.skip : Int), .bool r.line]))) := Ch.put (S := fun j => j = i) _ _ rfl
  refine ⟨_, st_get (q := 6) g1 o.cell (by simp), ⟨Nat.lt_of_lt_of_le a.lt (Nat.le_trans x.next c1.next), put_self _ _ _, (a.t.ch x fun j hj q => sep_t j hj q).ch c1 fun j hj q => a.ti (q ▸ hj), (a.l.ch x fun j hj q => sep_l j hj q).ch c1 fun j hj q => a.li (q ▸ hj), o.ch c1 hvi',
    a.ti, a.li, hvi, a.tl, fr _ fun j hj => (a.t.idlt hj).2, fr _ fun j hj => (a.l.idlt hj).2⟩, ⟨(x.mono (S' := RrF i vt vl vq) fun j _ q => .inr (.inr (.inr q))).trans c1 fun j _ q => .inl q, ?_⟩, rfl⟩
  rintro j (q | q | q | q)
  · exact .inl (.inl q)
  · exact .inl (.inr (.inl q))
  · exact .inl (.inr (.inr (.inl q)))
  · exact .inr (hv j q)

end Go.Proofs.Ytgnfkfmhjgbhhaa

noncomputable section
namespace Go.Ln
/-- what goes beside the sizes: nothing of a literal is held where none comes -/
structure RdInv (r : Rd) : Prop where
  lit : r.literal = false → r.lit = []
  line : r.line = true → r.literal = false
theorem RdInv.fresh (skip : Nat) (line : Bool) : RdInv { skip := skip, line := line } := ⟨fun _ => rfl, fun _ => rfl⟩
theorem RdInv.endM {most : Int} {r : Rd} (k : RdInv r) (h1 : r.literal = false) (h2 : r.line = false) : RdInv (endM most r).1 := by
  unfold Ln.endM
  cases markerM (cutCR r.now) with
  | none =>
    simp only []
    cases parseM (r.texts ++ [cutCR r.now]) r.lits <;> exact RdInv.fresh 0 false
  | some x =>
    obtain ⟨a, n, p⟩ := x
    simp only []
    split
    · cases p
      · exact RdInv.fresh 0 false
      · exact RdInv.fresh n true
    · exact ⟨fun _ => k.lit h1, fun h => by rw [h2] at h; cases h⟩
theorem RdInv.feedM {most : Int} {c : Nat} {r : Rd} (k : RdInv r) : RdInv (feedM most r c).1 := by
  unfold Ln.feedM
  split
  · exact ⟨k.lit, k.line⟩
  · split
    · rename_i hl
      split
      · exact ⟨fun _ => rfl, fun h => rfl⟩
      · refine ⟨fun h => ?_, fun h => k.line h⟩
        rw [hl] at h; cases h
    · rename_i hl
      have hl' : r.literal = false := by cases q : r.literal with | false => rfl | true => exact absurd q hl
      split
      · exact ⟨k.lit, fun _ => hl'⟩
      · rename_i hln
        have hln' : r.line = false := by cases q : r.line with | false => rfl | true => exact absurd q hln
        split
        · exact RdInv.endM k hl' hln'
        · split
          · exact RdInv.fresh 0 true
          · exact ⟨k.lit, k.line⟩
/-- both readers hold the same -/
structure RrRel (r : Rd) (x : Rr) : Prop where
  now : x.now = r.now
  els : x.els = inter r.texts r.lits
  long : x.long = r.long
  wide : x.wide = r.wide
  want : r.literal = true → x.want = r.want + r.lit.length
  lit : r.literal = true → x.lit = r.lit
  on : x.on = r.literal
  skip : x.skip = r.skip
  line : x.line = r.line
end Go.Ln
namespace Go.Proofs.Ytgnfkfmhjgbhhaa
open Go Go.Proofs Go.Vm Go.Ln
set_option linter.unusedVariables false
set_option maxRecDepth 100000
set_option linter.unusedSimpArgs false
variable {most : Int} {h h1 g : Hp} {i : Pos} {x : Rr} {r : Rd} {vt vl vq v : V}
theorem rreset_ok (a : RrAt most h i x vt vl vq) : ∃ v h', TryF25 [.ptr i 0] h = .ok v h' ∧ RrAt most h' i { skip := x.skip, line := x.line } .nils .nils .nils ∧ Stp (RrF i vt vl vq) h (RrF i .nils .nils .nils) h' ∧ Ch (fun j => j = i) h h' := by
  obtain ⟨h1, s1, a1, p1, -⟩ := a.set_now (v := .nils) (l := []) (Ch.refl _ _) (Own.nil _ _ _) (fun j q => by cases q)
  obtain ⟨h2, s2, a2, p2, -⟩ := a1.set_els (v := .nils) (l := []) (Ch.refl _ _) (Own.nil _ _ _) (fun j q => by cases q)
  obtain ⟨h3, s3, a3, p3, -⟩ := a2.set_long 0
  obtain ⟨h4, s4, a4, p4, -⟩ := a3.set_wide 0
  obtain ⟨h5, s5, a5, p5, -⟩ := a4.set_want 0
  obtain ⟨h6, s6, a6, p6, -⟩ := a5.set_lit (v := .nils) (l := []) (Ch.refl _ _) (Own.nil _ _ _) (fun j q => by cases q)
  obtain ⟨h7, s7, a7, p7, -⟩ := a6.set_on false
  replace s3 : oStore 1 (.ptr i 3) (.int .i64 0) h2 = .ok V.undef h3 := s3
  replace s4 : oStore 1 (.ptr i 4) (.int .i64 0) h3 = .ok V.undef h4 := s4
  replace s5 : oStore 1 (.ptr i 5) (.int .i64 0) h4 = .ok V.undef h5 := s5
  have p := (((((p1.trans p2).trans p3).trans p4).trans p5).trans p6).trans p7
  -- only the object itself is turned
  have ch : ∀ {g g' : Hp} {y : V} {q : Nat}, oStore 1 (.ptr i q) y g = .ok V.undef g' → Ch (fun j => j = i) g g' := fun {g g' y q} e => by
    obtain ⟨i', o', e1, e2⟩ := asPtr_ok e
    cases e1
    obtain ⟨w, cs, -, e3⟩ := hCells_ok e2
    split at e3
    · split at e3
      · cases e3; exact Ch.put g _ rfl
      · cases e3
    · cases e3
  have c := (((((((ch s1).trans (ch s2) fun _ _ q => q).trans (ch s3) fun _ _ q => q).trans (ch s4) fun _ _ q => q).trans (ch s5) fun _ _ q => q).trans (ch s6) fun _ _ q => q).trans (ch s7) fun _ _ q => q)
  rw [TryF25_eq]
  simp (disch := omega) only [seqO_eq, thenO_nor, gtO_some, bndO_ok, get_set_of, ↓reduceIte, oFieldAddr_eq, oNilCheck_ptr, Nat.zero_add, Tryd25, Tryr25_0, Tryr25_1, Tryr25_2, Tryr25_3, Tryr25_4, Tryr25_5, Tryr25_6, s1, s2, s3, s4, s5, s6, s7, outR, resK, tupR]
  exact ⟨_, _, rfl, a7, p, c⟩
/-- an element more -/
theorem RrAt.push (a : RrAt most h i x vt vl vq) (e : El) (hl : x.els.length < 1000000000) : ∃ v' h1 h', oAppend 3 24 vl (.slice h.next 0 1 (.kn 1)) (h.new (.cells true (elC e))) = .ok v' h1 ∧ oStore 1 (.ptr i 2) v' h1 = .ok V.undef h' ∧ RrAt most h' i { x with els := x.els ++ [e] } vt v' vq ∧ Stp (RrF i vt vl vq) h (RrF i vt v' vq) h' := by
  obtain ⟨v', h1, s1, e1, o1, c1, -⟩ := app1_ok (bt := 24) (new := elC e) a.l (elC_len e) (by omega)
  obtain ⟨h2, s2, a2, p2, -⟩ := a.set_els (l := x.els ++ [e]) c1 (by rw [List.length_append, elCs_append]; simpa [elCs] using o1) (fun j hj => by rw [e1] at hj; cases hj; rw [Pos.nat_succ]; omega)
  exact ⟨v', h1, h2, s1, s2, a2, p2⟩
theorem put_ok (a : RrAt most h i x vt vl vq) {t : List Nat} (hl : x.els.length + t.length < 1000000000) :
    ∃ v h' vl', TryF30 [.ptr i 0, .str t] h = .ok v h' ∧ RrAt most h' i { x with els := x.els ++ bsE t } vt vl' vq ∧ Stp (RrF i vt vl vq) h (RrF i vt vl' vq) h' := by
  have key : Oc (fun fr g => ∃ vl', RrAt most g i { x with els := x.els ++ bsE t } vt vl' vq ∧ Stp (RrF i vt vl vq) h (RrF i vt vl' vq) g) (fun _ _ => False) (Tryd30 (T.set (some (.str t)) (Pos.of 1) (T.set (some (.ptr i 0)) (Pos.of 0) T.nil)) h) := by
    simp (disch := omega) only [seqO_eq, thenO_nor, blkO_eq, Tryd30, Tryr30_0]
    refine loop_rule (n := t.length) (fun m fr g => ∃ (k : Nat) (vl' : V), fr.get (Pos.of 0) = some (.ptr i 0) ∧ fr.get (Pos.of 1) = some (.str t) ∧ fr.get (Pos.of 4) = some (.int .i64 (k : Int)) ∧ k + m = t.length ∧ RrAt most g i { x with els := x.els ++ bsE (t.take k) } vt vl' vq ∧ Stp (RrF i vt vl vq) h (RrF i vt vl' vq) g) (by rw [lf_eq]; omega) ?_ ?_
    · exact ⟨0, vl, by simp only [get_set_of, Nat.zero_ne_one, reduceCtorEq, ↓reduceIte], by simp only [get_set_of, Nat.reduceEqDiff, ↓reduceIte], by simp only [get_set_of, ↓reduceIte]; rfl, by omega, by simpa [bsE] using a, Stp.refl _ _⟩
    · rintro m fr g ⟨k, vl', f0, f1, f4, hk, b, p⟩
      by_cases hlt : k < t.length
      · have hlt' : (k : Int) < (t.length : Int) := by omega
        have ix : ∀ h, oIdxStr (.str t) (.int .i64 (k : Int)) h = .ok (.int .u8 (t[k] : Int)) h := fun h => oIdxStr_ok (List.getElem?_eq_getElem hlt)
        have l2 := ld_bump 1 i 2 b.fld.2.2.1
        obtain ⟨v', g1, g2, s1, s2, b2, p2⟩ := b.push (.b t[k]) (by simp only [List.length_append, bsE_len, List.length_take]; omega)
        replace s1 : oAppend 3 24 vl' (.slice g.next 0 1 (.kn 1)) (g.new (.cells true [.int .u8 (t[k] : Int), .bool false, .str []])) = .ok v' g1 := s1
        simp (disch := omega) only [seqO_eq, thenO_nor, gtO_some, bndO_ok, get_set_of, cndX_tmp, ifB_true, blkO_eq, blkX_nor, Nat.reduceEqDiff, reduceCtorEq, ↓reduceIte, oBin_add, oBin_lss, oFieldAddr_eq, alcO_some, oLenK_str, oNilCheck_ptr, Nat.zero_add, put_bump, decide_true, Tryb30_1, Tryr30_1, Tryr30_3, Tryr30_2, f0, f1, f4, hlt', l2, ix, oBuild_e, aBuildSlice_e, s1, s2]
        refine ⟨m - 1, by omega, k + 1, v', by simp only [get_set_of, reduceCtorEq, ↓reduceIte, f0], by simp only [get_set_of, Nat.reduceEqDiff, ↓reduceIte, f1], by simp only [get_set_of, ↓reduceIte]; rfl, by omega, ?_, p.trans p2⟩
        have e1 : x.els ++ bsE (t.take (k + 1)) = x.els ++ bsE (t.take k) ++ [.b t[k]] := by
          show x.els ++ (t.take (k + 1)).map El.b = x.els ++ (t.take k).map El.b ++ [El.b t[k]]
          rw [List.take_succ_eq_append_getElem hlt, List.map_append, List.append_assoc]
          rfl
        rw [e1]
        exact b2
      · have hlt' : ¬ (k : Int) < (t.length : Int) := by omega
        simp (disch := omega) only [seqO_eq, thenO_nor, thenO_ex, gtO_some, bndO_ok, get_set_of, cndX_tmp, ifB_false, ↓reduceIte, oBin_lss, oLenK_str, decide_false, Tryb30_1, Tryr30_1, f1, f4, hlt']
        rw [List.take_of_length_le (by omega)] at b
        exact ⟨rfl, vl', b, p⟩
  rw [TryF30_eq]
  cases e : Tryd30 (T.set (some (.str t)) (Pos.of 1) (T.set (some (.ptr i 0)) (Pos.of 0) T.nil)) h with
  | nor fr g =>
    rw [e] at key
    obtain ⟨vl', b, p⟩ := key
    exact ⟨_, g, vl', rfl, b, p⟩
  | ret fr g => rw [e] at key; exact key.elim
  | ex id fr g => rw [e] at key; exact key.elim
  | bad => rw [e] at key; exact key.elim
theorem filled_ok (a : RrAt most h i x vt vl vq) (hl : x.els.length < 1000000000) (hq : ∀ c ∈ x.lit, c < 256) (hon : x.on = true) :
    ∃ v h' vl', TryF23 [.ptr i 0] h = .ok v h' ∧ RrAt most h' i (if x.lit.length = x.want then { x with els := x.els ++ [.l x.lit], on := false } else x) vt vl' vq ∧ Stp (RrF i vt vl vq) h (RrF i vt vl' vq) h' := by
  have l7 := a.fld.2.2.2.2.2.2.2.1
  rw [hon] at l7
  have l6 := a.fld.2.2.2.2.2.2.1
  have l5 := a.fld.2.2.2.2.2.1
  have lq : ∀ h', oLenK 2 vq h' = .ok (.int .i64 (x.lit.length : Int)) h' := fun h' => a.q.sl.length
  rw [TryF23_eq]
  by_cases hw : x.lit.length = x.want
  · have hw' : (x.lit.length : Int) = (x.want : Int) := by omega
    rw [if_pos hw]
    have l2 := ld_bump 1 i 2 a.fld.2.2.1
    have l6b := ld_bump 1 i 6 l6
    have B : oBytesStr vq (bumpH 1 h) = .ok (.str x.lit) (bumpH 1 h) := oBytesStr_ok a.q.sl hq (fun _ _ => rfl)
    obtain ⟨v', h1, h2, s1, s2, a2, p2⟩ := a.push (.l x.lit) hl
    replace s1 : oAppend 3 24 vl (.slice h.next 0 1 (.kn 1)) (h.new (.cells true [.int .u8 0, .bool true, .str x.lit])) = .ok v' h1 := s1
    obtain ⟨h3, s3, a3, p3, -⟩ := a2.set_on false
    simp (disch := omega) only [seqO_eq, thenO_nor, gtO_some, bndO_ok, get_set_of, cndX_tmp, ifB_true, reduceCtorEq, ↓reduceIte, oBin_eql, oFieldAddr_eq, bumpH_zero, alcO_some, oNilCheck_ptr, Nat.zero_add, bumpH_zero, put_bump, decide_true, Tryd23, Tryr23_0, Tryr23_1, Tryr23_2, l7, l6, l5, lq, eq_true hw', l2, l6b, B, oBuild_l, aBuildSlice_e, s1, s2, s3, outR, resK, tupR]
    exact ⟨_, _, v', rfl, a3, p2.trans p3⟩
  · have hw' : ¬ (x.lit.length : Int) = (x.want : Int) := by omega
    rw [if_neg hw]
    simp (disch := omega) only [seqO_eq, thenO_nor, gtO_some, bndO_ok, get_set_of, cndX_tmp, ifB_true, ifB_false, ↓reduceIte, oBin_eql, oFieldAddr_eq, bumpH_zero, oNilCheck_ptr, Nat.zero_add, bumpH_zero, decide_false, Tryd23, Tryr23_0, l7, l6, l5, lq, hw', outR, resK, tupR]
    exact ⟨_, _, vl, rfl, a, Stp.refl _ _⟩
/-- what the end of a text tells -/
def RLineQ (most : Int) (r : Rd) (i : Pos) (S : Pos → Prop) (h : Hp) (v : V) (h' : Hp) : Prop :=
  ∃ x vt vl vq cs, RrAt most h' i x vt vl vq ∧ RrRel (endM most r).1 x ∧ Stp S h (RrF i vt vl vq) h' ∧ Sl h'.next.nat h' 2 v (endM most r).2.length cs ∧ GAt (fun j => h.next.nat ≤ j.nat ∧ ¬ RrF i vt vl vq j) h' (endM most r).2 cs
theorem rline_told {r' : Rd} {x' : Rr} {S : Pos → Prop} {h4 : Hp} {k : Int} {ws : Wds} (a4 : RrAt most h4 i x' vt vl vq) (rl : RrRel r' x') (p : Stp S h (RrF i vt vl vq) h4) (e : endM most r = (r', [⟨k, ws⟩])) (w : WRow (fun j => h.next.nat ≤ j.nat ∧ ¬ RrF i vt vl vq j) h4 v ws) :
    RLineQ most r i S h (.slice h4.next 0 1 (.kn 1)) (h4.new (.cells true [.int .i64 k, v])) := by
  have c5 : Ch (fun _ => False) h4 (h4.new (.cells true [.int .i64 k, v])) := Ch.new _ _ _
  refine ⟨x', vt, vl, vq, [.int .i64 k, v], a4.ch c5 fun _ _ q => q, by rw [e]; exact rl, p.step c5 (fun _ q => q.elim), ?_, ?_⟩
  · rw [e]
    have := Sl.made (h := h4) [V.int .i64 k, v]
    rw [new_next_nat]
    exact this
  · rw [e]
    exact GAt.one (w.ch c5 fun j _ q => ⟨q, fun q => q⟩)
/-- a text without its carriage return -/
theorem rcut_ok {t : List Nat} (hl : t.length < 1000000000) (K : F → Hp → Out) (fr : F) (h : Hp) (f3 : fr.get (Pos.of 3) = some (.str t)) (P : Out → Prop) (hP : ∀ fr' : F, (∀ n, n ≠ 3 → n ≠ 25 → fr'.get (Pos.of n) = fr.get (Pos.of n)) → fr'.get (Pos.of 3) = some (.str (cutCR t)) → P (K fr' h)) :
    P ((seqO (seqO Tryr24_2 (cndX (.tmp 25) Tryr24_3 Out.nor)) K) fr h) := by
  have other : ∀ (n m : Nat) (y : Option V) (f : F), n ≠ m → (T.set y (Pos.of m) f).get (Pos.of n) = f.get (Pos.of n) := fun n m y f hne => by rw [get_set_of, if_neg hne]
  by_cases h0 : t = []
  · subst h0
    simp (disch := omega) only [seqO_eq, thenO_nor, gtO_some, bndO_ok, get_set_of, cndX_tmp, ifB_false, ↓reduceIte, oBin_sub, oBin_str_neq, oLenK_str, decide_false, ne_eq, not_true, Tryr24_2, f3]
    refine hP _ (fun n h1 h2 => by rw [other n 25 _ _ h2]) ?_
    simp only [get_set_of, Nat.reduceEqDiff, ↓reduceIte, f3]; rfl
  · have hpos : 0 < t.length := List.length_pos_iff.2 h0
    have hs1 : (t.length : Int) - 1 = ((t.length - 1 : Nat) : Int) := by omega
    have hlast : t.getLast? = some t[t.length - 1] := by rw [List.getLast?_eq_getElem?, List.getElem?_eq_getElem (by omega)]
    have ixl : ∀ h, oIdxStr (.str t) (.int .i64 ((t.length - 1 : Nat) : Int)) h = .ok (.int .u8 (t[t.length - 1] : Int)) h := fun h => oIdxStr_ok (List.getElem?_eq_getElem (by omega))
    by_cases h13 : t[t.length - 1] = 13
    · have h13' : (t[t.length - 1] : Int) = 13 := by omega
      have sl2 : ∀ h, oSliceStr (.str t) none (some (.int .i64 ((t.length - 1 : Nat) : Int))) h = .ok (.str t.dropLast) h := fun h => by
        rw [List.dropLast_eq_take]; exact oSliceStr_to (by omega)
      simp (disch := omega) only [seqO_eq, thenO_nor, gtO_some, bndO_ok, get_set_of, cndX_tmp, ifB_true, Nat.reduceEqDiff, ↓reduceIte, oBin_sub, oBin_eql, oBin_str_neq, oLenK_str, decide_true, ne_eq, not_false_eq_true, Tryr24_2, Tryr24_3, f3, h0, hs1, ixl, eq_true h13', sl2]
      refine hP _ (fun n h1 h2 => by rw [other n 3 _ _ h1, other n 25 _ _ h2]) ?_
      simp only [get_set_of, ↓reduceIte]
      unfold cutCR
      rw [if_pos (by rw [hlast, h13])]
    · have h13' : ¬ (t[t.length - 1] : Int) = 13 := by omega
      simp (disch := omega) only [seqO_eq, thenO_nor, gtO_some, bndO_ok, get_set_of, cndX_tmp, ifB_true, ifB_false, ↓reduceIte, oBin_sub, oBin_eql, oBin_str_neq, oLenK_str, decide_true, decide_false, ne_eq, not_false_eq_true, Tryr24_2, f3, h0, hs1, ixl, h13']
      refine hP _ (fun n h1 h2 => by rw [other n 25 _ _ h2]) ?_
      simp only [get_set_of, Nat.reduceEqDiff, ↓reduceIte, f3]
      unfold cutCR
      rw [if_neg (by rw [hlast]; exact fun e => h13 (Option.some.inj e))]
end Go.Proofs.Ytgnfkfmhjgbhhaa

noncomputable section
namespace Go.Proofs.Ytgnfkfmhjgbhhaa
open Go Go.Proofs Go.Vm Go.Ln
set_option linter.unusedVariables false
set_option maxRecDepth 100000
set_option linter.unusedSimpArgs false
variable {most : Int} {h h1 g : Hp} {i : Pos} {x : Rr} {r : Rd} {vt vl vq v : V}
theorem elsB {L : List El} {t : List Nat} (h : ∀ c, El.b c ∈ L → c < 256) (ht : ∀ c ∈ t, c < 256) : ∀ c, El.b c ∈ L ++ bsE t → c < 256 := fun c hc => by
  rcases List.mem_append.1 hc with hc | hc
  · exact h c hc
  · simp only [bsE, List.mem_map] at hc
    obtain ⟨d, hd, e⟩ := hc
    cases e
    exact ht c hd
theorem inter_b : ∀ {ts ls : List (List Nat)}, (∀ t ∈ ts, ∀ c ∈ t, c < 256) → ∀ c, El.b c ∈ inter ts ls → c < 256
  | [], _, _, c, hc => by cases hc
  | t :: ts, [], h, c, hc => by
    rw [inter] at hc
    rcases List.mem_append.1 hc with hc | hc
    · simp only [bsE, List.mem_map] at hc
      obtain ⟨d, hd, e⟩ := hc
      cases e
      exact h t (by simp) c hd
    · exact inter_b (fun u hu => h u (by simp [hu])) c hc
  | t :: ts, l :: ls, h, c, hc => by
    rw [inter] at hc
    rcases List.mem_append.1 hc with hc | hc
    · simp only [bsE, List.mem_map] at hc
      obtain ⟨d, hd, e⟩ := hc
      cases e
      exact h t (by simp) c hd
    · rcases List.mem_cons.1 hc with hc | hc
      · cases hc
      · exact inter_b (fun u hu => h u (by simp [hu])) c hc
theorem inter_len : ∀ (ts ls : List (List Nat)), (inter ts ls).length ≤ bytesL ts
  | [], _ => Nat.le_refl _
  | t :: ts, [] => by
    have := inter_len ts []
    rw [inter, List.length_append, bsE_len]
    simp only [bytesL, List.map_cons, List.sum_cons] at this ⊢
    omega
  | t :: ts, l :: ls => by
    have := inter_len ts ls
    rw [inter, List.length_append, bsE_len, List.length_cons]
    simp only [bytesL, List.map_cons, List.sum_cons] at this ⊢
    omega
/-- the reference's words of a whole command -/
theorem rparse_ok {texts lits : List (List Nat)} {vl : V} (sl : Sl h.next.nat h 3 vl (inter texts lits).length (elCs (inter texts lits))) (hcell : vl.cells = [vl] ∧ notTuple vl = true) (hn : texts.length = lits.length + 1) (hb : ∀ t ∈ texts, ∀ c ∈ t, c < 256) (hsm : (inter texts lits).length < 900000000) :
    ∃ g1 v g2 k β, oBox (.agg (.cons vl (.cons (.int .i64 0) (.cons (.bool false) .nil)))) h = .ok (.ptr h.next 0) g1 ∧ TryF31r [.ptr h.next 0, .int .i64 0] g1 = .ok v g2 ∧ Ch (fun _ => False) h g2 ∧ RPs h.next.nat (inter texts lits) g2 h.next k β ∧ v.cells = [v] ∧ notTuple v = true ∧
      ((β = false ∧ k = (inter texts lits).length ∧ ∃ ws, parseM texts lits = some ws ∧ WRow (fun j => h.next.nat < j.nat) g2 v ws) ∨ ((β = true ∨ k ≠ (inter texts lits).length) ∧ parseM texts lits = none)) := by
  obtain ⟨t0, ts, rfl⟩ : ∃ t ts, texts = t :: ts := by cases texts with | nil => simp at hn | cons t ts => exact ⟨t, ts, rfl⟩
  have hn' : ts.length = lits.length := by simpa using hn
  obtain ⟨L, hL⟩ : ∃ L, L = inter (t0 :: ts) lits := ⟨_, rfl⟩
  rw [← hL] at sl hsm ⊢
  have hst : L = stE ⟨t0, lits.zip ts⟩ := by rw [hL]; exact inter_stE hn'
  obtain ⟨g1, hg1⟩ : ∃ g1, g1 = h.new (.cells true [vl, .int .i64 0, .bool false]) := ⟨_, rfl⟩
  have c1 : Ch (fun _ => False) h g1 := by rw [hg1]; exact Ch.new _ _ _
  have n1 : g1.next.nat = h.next.nat + 1 := by rw [hg1]; exact new_next_nat _ _
  have bx : oBox (.agg (.cons vl (.cons (.int .i64 0) (.cons (.bool false) .nil)))) h = .ok (.ptr h.next 0) g1 := by rw [oBox_agg, hg1]; rfl
  have hLb : ∀ c, El.b c ∈ L → c < 256 := by rw [hL]; exact inter_b hb
  have ps : RPs h.next.nat L g1 h.next 0 false := ⟨Nat.le_refl _, by omega, ⟨vl, by rw [hg1]; exact new_self _ _, sl.ch c1 (Nat.le_refl _) fun _ _ q => q⟩, by omega, hLb⟩
  obtain ⟨v, g2, e2, c2, hq⟩ := rwords_ok (rword_ok hLb 8 20 (Nat.le_refl _) (by omega)) ps (by rw [List.drop_zero]; exact hst) (Nat.zero_le _)
  replace e2 : TryF31r [.ptr h.next 0, .int .i64 0] g1 = .ok v g2 := e2
  have c02 : Ch (fun _ => False) h g2 := c1.trans c2 fun j hj q => by have := congrArg Pos.nat q; omega
  rcases hq with ⟨ws, st', k, hl, ps2, hd2, -, hkL, hok, wr⟩ | ⟨hno, hc1, hc2, k, hk, ps2⟩
  · obtain ⟨cw, ow, -⟩ := id wr
    refine ⟨g1, v, g2, k, false, bx, e2, c02, ps2, ow.cell.1, ow.cell.2, ?_⟩
    by_cases hkk : k = L.length
    · left
      have hnil : stE st' = [] := by rw [← hd2, hkk, List.drop_length]
      have hst' : st' = ⟨[], []⟩ := by
        obtain ⟨cur, rest⟩ := st'
        cases cur with
        | cons c s => rw [stE_cons] at hnil; cases hnil
        | nil =>
          cases rest with
          | nil => rfl
          | cons p rest => obtain ⟨l, t⟩ := p; rw [stE_lit] at hnil; cases hnil
      rw [hst'] at hl
      refine ⟨rfl, hkk, ws, parse_some hn' hl ?_, wr.ch (Ch.refl (fun _ => False) _) fun j _ q => ⟨by omega, fun e => e⟩⟩
      rw [← hL, ← hkk]; exact hok
    · right
      refine ⟨.inr hkk, parse_none hn' (.inr (.inl ⟨ws, st', hl, fun hnil => ?_⟩))⟩
      rw [hnil] at hd2
      have := drop_nil hd2
      omega
  · refine ⟨g1, v, g2, k, true, bx, e2, c02, ps2, hc1, hc2, .inr ⟨.inl rfl, parse_none hn' ?_⟩⟩
    rcases hno with hno | hno
    · exact .inl hno
    · exact .inr (.inr (by rw [← hL]; exact hno))
/-- behind the look at the text's end -/
def RTail : F → Hp → Out := (seqO Tryr24_4 (seqO (seqO Tryr24_5 (cndX (.tmp 51) (seqO Tryr24_6 (seqO (seqO Tryr24_7 (cndX (.tmp 54) (seqO Tryr24_8 Tryr24_9) Out.nor)) (seqO Tryr24_10 Out.ret))) Out.nor)) (seqO (seqO Tryr24_11 (cndX (.tmp 64) (seqO Tryr24_12 (seqO Tryr24_13 (seqO Tryr24_14 (seqO Tryr24_15 (seqO Tryr24_16 (seqO Tryr24_17 (seqO Tryr24_18 (seqO Tryr24_19 (seqO (seqO Tryr24_20 (cndX (.tmp 104) (seqO Tryr24_21 Out.ret) Out.nor)) (seqO Tryr24_22 Out.ret)))))))))) Out.nor)) (seqO Tryr24_23 (seqO Tryr24_24 (seqO Tryr24_25 (seqO Tryr24_26 (seqO Tryr24_27 (seqO (seqO Tryr24_28 (cndX (.tmp 138) (seqO Tryr24_29 Out.ret) Out.nor)) (seqO Tryr24_30 Out.ret))))))))))
theorem Tryd24_eq : Tryd24 = seqO Tryr24_0 (seqO Tryr24_1 (seqO (seqO Tryr24_2 (cndX (.tmp 25) Tryr24_3 Out.nor)) RTail)) := (rfl)
theorem rtail_ok {B : Nat} (a : RrAt most h i x vt vl vq) (rl : RrRel r x) (ri : RdInv r) (k : RdOk most B r) (hB : B < 800000000) (hlit : r.literal = false) (hln : r.line = false) (hsk : r.skip = 0)
    {fr : F} (f0 : fr.get (Pos.of 0) = some (.ptr i 0)) (f3 : fr.get (Pos.of 3) = some (.str (cutCR r.now))) : Tells Try.prog [.tmp 2] (RLineQ most r i (RrF i vt vl vq) h) (RTail fr h) := by
  have hmu := k.mu
  unfold Rd.mu at hmu
  have hcnt := k.cnt
  rw [hlit] at hcnt
  simp only [Bool.false_eq_true, if_false, Nat.add_zero] at hcnt
  have hcut := cutCR_le r.now
  have hwide := k.wide
  have hmax := k.mmax
  have hil := inter_len r.texts r.lits
  have hxl : x.els.length ≤ bytesL r.texts := by rw [rl.els]; exact hil
  have hx0 : x.skip = 0 := by rw [rl.skip, hsk]
  have hxl0 : x.line = false := by rw [rl.line, hln]
  obtain ⟨lv, e29, hq⟩ := rlit_ok (t := cutCR r.now) (by omega) h
  have fresh : ∀ (skip : Nat) (line : Bool), RrRel { skip := skip, line := line } { skip := skip, line := line } := fun skip line => ⟨rfl, rfl, rfl, rfl, fun h => (by cases h), fun h => (by cases h), rfl, rfl, rfl⟩
  rcases hq with ⟨hm, y1, y2, y3, rfl⟩ | ⟨ahead, n, plus, hm, rfl, htk, hta⟩
  · -- a command
    obtain ⟨u, g1, vl1, e30, a1, p1⟩ := put_ok a (t := cutCR r.now) (by omega)
    have hels : x.els ++ bsE (cutCR r.now) = inter (r.texts ++ [cutCR r.now]) r.lits := by rw [rl.els, inter_put _ hcnt]
    have o1 := a1.l
    replace o1 : Own 0 g1 3 vl1 (x.els ++ bsE (cutCR r.now)).length (elCs (x.els ++ bsE (cutCR r.now))) := o1
    rw [hels] at o1
    obtain ⟨g2, v9, g3, kk, β, bx, e31, c13, ps3, v1, v2, hr⟩ := rparse_ok o1.sl o1.cell (by rw [List.length_append, hcnt]; rfl) (fun t ht c hc => by
      rcases List.mem_append.1 ht with ht | ht
      · exact k.tb t ht c hc
      · rw [List.mem_singleton.1 ht] at hc; exact k.nb c (hcut.2 c hc)) (by rw [← hels, List.length_append, bsE_len]; omega)
    have l2 := a1.fld.2.2.1
    have a3 := a1.ch c13 fun _ _ q => q
    obtain ⟨vp, q0, q1, q2, ql, -⟩ := ps3.see
    obtain ⟨u', g4, e25, a4, p4, c4⟩ := rreset_ok a3
    rw [show ({ x with els := x.els ++ bsE (cutCR r.now) } : Rr).skip = 0 from hx0, show ({ x with els := x.els ++ bsE (cutCR r.now) } : Rr).line = false from hxl0] at a4
    have p3 := p1.step c13 fun j q => q.elim
    have pp := p3.trans p4
    have n1 := p1.ch.next
    have n3 := c13.next
    rcases hr with ⟨rfl, hkk, ws, hp, wr⟩ | ⟨hbad, hp⟩
    · have hkk' : (kk : Int) = ((inter (r.texts ++ [cutCR r.now]) r.lits).length : Int) := by omega
      have ee : endM most r = ({}, [⟨1, ws⟩]) := by unfold endM; rw [hm]; simp only []; rw [hp]
      simp (disch := omega) only [seqO_eq, thenO_nor, gtO_some, bndO_ok, get_set_of, cndX_tmp, ifB_true, ifB_false, Nat.reduceEqDiff, reduceCtorEq, ↓reduceIte, oBin_eql, oUn_not, oExtract_0, oExtract_1, oExtract_2, oFieldAddr_eq, oBuildSlice_2, bumpH_zero, Bool.not_true, Bool.not_false, oNilCheck_ptr, Nat.zero_add, bumpH_zero, decide_true, RTail, Tryr24_4, Tryr24_5, Tryr24_11, Tryr24_23, Tryr24_24, Tryr24_25, Tryr24_26, Tryr24_27, Tryr24_28, Tryr24_30, f0, f3, e29, four, oExtract_3, e30, l2, oBuild_rp o1.cell, bx, e31, q0, q1, q2, ql, eq_true hkk', e25, oBuild_g1 _ ⟨v1, v2⟩, oBuildSlice_2]
      refine Tells.ret (by simp only [resK, get_set_of, ↓reduceIte, tupR] <;> rfl) (rline_told a4 (fresh 0 false) pp ee (wr.ch c4 fun j hj q => ⟨⟨by omega, fun q' => ?_⟩, fun q' => ?_⟩))
      · have := congrArg Pos.nat (RrF0 q'); have := a1.lt; omega
      · have := congrArg Pos.nat q'; have := a1.lt; omega
    · have ee : endM most r = ({}, [⟨3, .nil⟩]) := by unfold endM; rw [hm]; simp only []; rw [hp]
      cases hβ : β with
      | true =>
        rw [hβ] at q2
        simp (disch := omega) only [seqO_eq, thenO_nor, thenO_ret, gtO_some, bndO_ok, get_set_of, cndX_tmp, ifB_true, ifB_false, Nat.reduceEqDiff, reduceCtorEq, ↓reduceIte, oBin_eql, oUn_not, oExtract_0, oExtract_1, oExtract_2, oFieldAddr_eq, oBuildSlice_2, bumpH_zero, Bool.not_true, Bool.not_false, oNilCheck_ptr, Nat.zero_add, bumpH_zero, RTail, Tryr24_4, Tryr24_5, Tryr24_11, Tryr24_23, Tryr24_24, Tryr24_25, Tryr24_26, Tryr24_27, Tryr24_28, Tryr24_29, f0, f3, e29, four, oExtract_3, e30, l2, oBuild_rp o1.cell, bx, e31, q0, q1, q2, ql, e25, oBuild_g0, oBuildSlice_2]
        exact Tells.ret (by simp only [resK, get_set_of, ↓reduceIte, tupR] <;> rfl) (rline_told a4 (fresh 0 false) pp ee (WRow.nil _ _))
      | false =>
        rw [hβ] at q2 hbad
        have hkk' : ¬ (kk : Int) = ((inter (r.texts ++ [cutCR r.now]) r.lits).length : Int) := by
          rcases hbad with hbad | hbad
          · cases hbad
          · omega
        simp (disch := omega) only [seqO_eq, thenO_nor, thenO_ret, gtO_some, bndO_ok, get_set_of, cndX_tmp, ifB_true, ifB_false, Nat.reduceEqDiff, reduceCtorEq, ↓reduceIte, oBin_eql, oUn_not, oExtract_0, oExtract_1, oExtract_2, oFieldAddr_eq, oBuildSlice_2, bumpH_zero, Bool.not_false, oNilCheck_ptr, Nat.zero_add, bumpH_zero, decide_false, RTail, Tryr24_4, Tryr24_5, Tryr24_11, Tryr24_23, Tryr24_24, Tryr24_25, Tryr24_26, Tryr24_27, Tryr24_28, Tryr24_29, f0, f3, e29, four, oExtract_3, e30, l2, oBuild_rp o1.cell, bx, e31, q0, q1, q2, ql, hkk', e25, oBuild_g0, oBuildSlice_2]
        exact Tells.ret (by simp only [resK, get_set_of, ↓reduceIte, tupR] <;> rfl) (rline_told a4 (fresh 0 false) pp ee (WRow.nil _ _))
  · have l0 := a.fld.1
    have l4 := a.fld.2.2.2.2.1
    rw [rl.wide] at l4
    have hms := markerM_some hm
    by_cases hgt : (n : Int) > most - (r.wide : Int)
    · -- a literal that is too great
      obtain ⟨u, g1, e25, a1, p1, -⟩ := rreset_ok a
      rw [hx0, hxl0] at a1
      cases plus with
      | false =>
        have ee : endM most r = ({}, [⟨3, .nil⟩]) := by unfold endM; rw [hm]; simp only []; rw [if_pos hgt]; rfl
        simp (disch := omega) only [seqO_eq, thenO_nor, thenO_ret, gtO_some, bndO_ok, get_set_of, cndX_tmp, ifB_true, ifB_false, Nat.reduceEqDiff, reduceCtorEq, ↓reduceIte, oBin_sub, oBin_gtr, oExtract_0, oExtract_1, oExtract_2, oFieldAddr_eq, oBuildSlice_2, bumpH_zero, oNilCheck_ptr, Nat.zero_add, bumpH_zero, decide_true, RTail, Tryr24_4, Tryr24_5, Tryr24_6, Tryr24_7, Tryr24_10, f0, f3, e29, four, oExtract_3, l0, l4, hgt, e25, oBuild_g0, oBuildSlice_2]
        exact Tells.ret (by simp only [resK, get_set_of, ↓reduceIte, tupR] <;> rfl) (rline_told a1 (fresh 0 false) p1 ee (WRow.nil _ _))
      | true =>
        obtain ⟨g2, s2, a2, p2, -⟩ := a1.set_skip n
        obtain ⟨g3, s3, a3, p3, -⟩ := a2.set_line true
        have ee : endM most r = ({ skip := n, line := true }, [⟨3, .nil⟩]) := by unfold endM; rw [hm]; simp only []; rw [if_pos hgt]; rfl
        simp (disch := omega) only [seqO_eq, thenO_nor, thenO_ret, gtO_some, bndO_ok, get_set_of, cndX_tmp, ifB_true, Nat.reduceEqDiff, reduceCtorEq, ↓reduceIte, oBin_sub, oBin_gtr, oExtract_0, oExtract_1, oExtract_2, oFieldAddr_eq, oBuildSlice_2, bumpH_zero, oNilCheck_ptr, Nat.zero_add, bumpH_zero, decide_true, RTail, Tryr24_4, Tryr24_5, Tryr24_6, Tryr24_7, Tryr24_8, Tryr24_9, Tryr24_10, f0, f3, e29, four, oExtract_3, l0, l4, hgt, e25, s2, s3, oBuild_g0, oBuildSlice_2]
        exact Tells.ret (by simp only [resK, get_set_of, ↓reduceIte, tupR] <;> rfl) (rline_told a3 (fresh n true) ((p1.trans p2).trans p3) ee (WRow.nil _ _))
    · -- a literal
      have st1 : ∀ h, oSliceStr (.str (cutCR r.now)) none (some (.int .i64 (ahead.length : Int))) h = .ok (.str ahead) h := fun h => by
        rw [oSliceStr_to hta, htk]
      obtain ⟨u, g1, vl1, e30, a1, p1⟩ := put_ok a (t := ahead) (by omega)
      replace a1 : RrAt most g1 i { now := x.now, els := x.els ++ bsE ahead, long := x.long, wide := x.wide, want := x.want, lit := x.lit, on := x.on, skip := x.skip, line := x.line } vt vl1 vq := a1
      have hels : x.els ++ bsE ahead = inter (r.texts ++ [ahead]) r.lits := by rw [rl.els, inter_put _ hcnt]
      have l3 := a1.fld.2.2.2.1
      replace l3 : oLoad1 (.ptr i 3) g1 = .ok (.int .i64 (x.long : Int)) g1 := l3
      obtain ⟨g2, s2, a2, p2, -⟩ := a1.set_long (x.long + (cutCR r.now).length)
      replace a2 : RrAt most g2 i { now := x.now, els := x.els ++ bsE ahead, long := x.long + (cutCR r.now).length, wide := x.wide, want := x.want, lit := x.lit, on := x.on, skip := x.skip, line := x.line } vt vl1 vq := a2
      have l4' := a2.fld.2.2.2.2.1
      replace l4' : oLoad1 (.ptr i 4) g2 = .ok (.int .i64 (x.wide : Int)) g2 := l4'
      obtain ⟨g3, s3, a3, p3, -⟩ := a2.set_wide (x.wide + n)
      replace a3 : RrAt most g3 i { now := x.now, els := x.els ++ bsE ahead, long := x.long + (cutCR r.now).length, wide := x.wide + n, want := x.want, lit := x.lit, on := x.on, skip := x.skip, line := x.line } vt vl1 vq := a3
      obtain ⟨g4, s4, a4, p4, -⟩ := a3.set_now (v := .nils) (l := []) (Ch.refl _ _) (Own.nil _ _ _) (fun j q => by cases q)
      replace a4 : RrAt most g4 i { now := [], els := x.els ++ bsE ahead, long := x.long + (cutCR r.now).length, wide := x.wide + n, want := x.want, lit := x.lit, on := x.on, skip := x.skip, line := x.line } .nils vl1 vq := a4
      obtain ⟨g5, s5, a5, p5, -⟩ := a4.set_want n
      replace a5 : RrAt most g5 i { now := [], els := x.els ++ bsE ahead, long := x.long + (cutCR r.now).length, wide := x.wide + n, want := n, lit := x.lit, on := x.on, skip := x.skip, line := x.line } .nils vl1 vq := a5
      obtain ⟨g6, s6, a6, p6, -⟩ := a5.set_lit (v := .nils) (l := []) (Ch.refl _ _) (Own.nil _ _ _) (fun j q => by cases q)
      replace a6 : RrAt most g6 i { now := [], els := x.els ++ bsE ahead, long := x.long + (cutCR r.now).length, wide := x.wide + n, want := n, lit := [], on := x.on, skip := x.skip, line := x.line } .nils vl1 .nils := a6
      obtain ⟨g7, s7, a7, p7, -⟩ := a6.set_on true
      obtain ⟨X, hX⟩ : ∃ X : Rr, X = { now := [], els := x.els ++ bsE ahead, long := x.long + (cutCR r.now).length, wide := x.wide + n, want := n, lit := [], on := true, skip := x.skip, line := x.line } := ⟨_, rfl⟩
      replace a7 : RrAt most g7 i X .nils vl1 .nils := by rw [hX]; exact a7
      rw [Int.natCast_add] at s2 s3
      obtain ⟨u8, g8, vl8, e23, a8, p8⟩ := filled_ok a7 (by rw [hX]; show (x.els ++ bsE ahead).length < _; rw [List.length_append, bsE_len]; have := hms.2.1; omega) (fun c hc => by rw [hX] at hc; cases hc) (by rw [hX])
      have p := ((((((p1.trans p2).trans p3).trans p4).trans p5).trans p6).trans p7).trans p8
      have hxlong : (x.long : Int) = (r.long : Int) := by rw [rl.long]
      have hxwide : (x.wide : Int) = (r.wide : Int) := by rw [rl.wide]
      obtain ⟨lits', hlits'⟩ : ∃ l, l = (if n = 0 then r.lits ++ [[]] else r.lits) := ⟨_, rfl⟩
      -- what both hold then
      have rl8 : ∃ x8, RrAt most g8 i x8 .nils vl8 .nils ∧ RrRel { texts := r.texts ++ [ahead], lits := lits', long := r.long + (cutCR r.now).length, wide := r.wide + n, now := [], want := n, lit := r.lit, literal := decide (0 < n), skip := r.skip, line := r.line } x8 := by
        have hr0 := ri.lit hlit
        by_cases hn0 : n = 0
        · rw [if_pos (by rw [hX]; exact hn0.symm)] at a8
          subst hn0
          refine ⟨_, a8, ?_⟩
          subst hX
          refine ⟨rfl, ?_, by show x.long + _ = r.long + _; rw [rl.long], by show x.wide + 0 = r.wide + 0; rw [rl.wide], fun h => (by cases h), fun h => (by cases h), rfl, by show x.skip = r.skip; exact rl.skip, by show x.line = r.line; exact rl.line⟩
          show x.els ++ bsE ahead ++ [.l []] = inter (r.texts ++ [ahead]) lits'
          rw [hels, hlits', if_pos rfl, inter_lit [] (by rw [List.length_append, hcnt]; rfl)]
        · rw [if_neg (by rw [hX]; exact fun e => hn0 e.symm)] at a8
          refine ⟨_, a8, ?_⟩
          subst hX
          refine ⟨rfl, ?_, by show x.long + _ = r.long + _; rw [rl.long], by show x.wide + n = r.wide + n; rw [rl.wide], fun _ => by rw [hr0]; rfl, fun _ => by rw [hr0], by show true = decide (0 < n); rw [decide_eq_true (by omega)], by show x.skip = r.skip; exact rl.skip, by show x.line = r.line; exact rl.line⟩
          show x.els ++ bsE ahead = inter (r.texts ++ [ahead]) lits'
          rw [hels, hlits', if_neg hn0]
      obtain ⟨x8, b8, rl8⟩ := rl8
      have hwn : (r.wide : Int) + (n : Int) < 9223372036854775808 := by omega
      cases plus with
      | true =>
        have ee : endM most r = ({ texts := r.texts ++ [ahead], lits := lits', long := r.long + (cutCR r.now).length, wide := r.wide + n, now := [], want := n, lit := r.lit, literal := decide (0 < n), skip := r.skip, line := r.line }, []) := by unfold endM; rw [hm, hlits']; simp only []; rw [if_neg hgt]; rfl
        simp (disch := omega) only [seqO_eq, thenO_nor, thenO_ret, gtO_some, bndO_ok, get_set_of, cndX_tmp, ifB_true, ifB_false, Nat.reduceEqDiff, reduceCtorEq, ↓reduceIte, oBin_add, oBin_sub, oBin_gtr, oExtract_0, oExtract_1, oExtract_2, oFieldAddr_eq, bumpH_zero, oLenK_str, oNilCheck_ptr, Nat.zero_add, bumpH_zero, decide_false, RTail, Tryr24_4, Tryr24_5, Tryr24_11, Tryr24_12, Tryr24_13, Tryr24_14, Tryr24_15, Tryr24_16, Tryr24_17, Tryr24_18, Tryr24_19, Tryr24_20, Tryr24_21, f0, f3, e29, four, oExtract_3, l0, l4, hgt, st1, e30, l3, s2, l4', s3, s4, s5, s6, s7, e23]
        exact Tells.ret (by simp only [resK, get_set_of, ↓reduceIte, tupR] <;> rfl) ⟨x8, .nils, vl8, .nils, [], b8, by rw [ee]; exact rl8, p, by rw [ee]; exact ⟨rfl, .inl ⟨rfl, .inl rfl⟩⟩, by rw [ee]; rfl⟩
      | false =>
        have ee : endM most r = ({ texts := r.texts ++ [ahead], lits := lits', long := r.long + (cutCR r.now).length, wide := r.wide + n, now := [], want := n, lit := r.lit, literal := decide (0 < n), skip := r.skip, line := r.line }, [⟨2, .nil⟩]) := by unfold endM; rw [hm, hlits']; simp only []; rw [if_neg hgt]; rfl
        simp (disch := omega) only [seqO_eq, thenO_nor, thenO_ret, gtO_some, bndO_ok, get_set_of, cndX_tmp, ifB_true, ifB_false, Nat.reduceEqDiff, reduceCtorEq, ↓reduceIte, oBin_add, oBin_sub, oBin_gtr, oExtract_0, oExtract_1, oExtract_2, oFieldAddr_eq, oBuildSlice_2, bumpH_zero, oLenK_str, oNilCheck_ptr, Nat.zero_add, bumpH_zero, decide_false, RTail, Tryr24_4, Tryr24_5, Tryr24_11, Tryr24_12, Tryr24_13, Tryr24_14, Tryr24_15, Tryr24_16, Tryr24_17, Tryr24_18, Tryr24_19, Tryr24_20, Tryr24_22, f0, f3, e29, four, oExtract_3, l0, l4, hgt, st1, e30, l3, s2, l4', s3, s4, s5, s6, s7, e23, oBuild_g0, oBuildSlice_2]
        exact Tells.ret (by simp only [resK, get_set_of, ↓reduceIte, tupR] <;> rfl) (rline_told b8 rl8 p ee (WRow.nil _ _))
theorem rline_ok {B : Nat} (a : RrAt most h i x vt vl vq) (rl : RrRel r x) (ri : RdInv r) (k : RdOk most B r) (hB : B < 800000000) (hlit : r.literal = false) (hln : r.line = false) (hsk : r.skip = 0) :
    ∃ v h', TryF24 [.ptr i 0] h = .ok v h' ∧ RLineQ most r i (RrF i vt vl vq) h v h' := by
  have hmu := k.mu
  unfold Rd.mu at hmu
  have L1 := a.fld.2.1
  have o := a.t
  rw [rl.now] at o
  have B1 : oBytesStr vt h = .ok (.str r.now) h := oBytesStr_ok o.sl k.nb (fun _ _ => rfl)
  rw [TryF24_eq]
  show Tells Try.prog _ (RLineQ most r i (RrF i vt vl vq) h) _
  rw [Tryd24_eq]
  generalize hR : RTail = R
  generalize hC : (seqO Tryr24_2 (cndX (.tmp 25) Tryr24_3 Out.nor)) = C
  simp (disch := omega) only [seqO_eq, thenO_nor, gtO_some, bndO_ok, get_set_of, reduceCtorEq, ↓reduceIte, oFieldAddr_eq, oNilCheck_ptr, Nat.zero_add, Tryr24_0, Tryr24_1, L1, B1]
  rw [← seqO_eq, ← hC]
  refine rcut_ok (t := r.now) (by omega) R _ h (by simp only [get_set_of, ↓reduceIte]) _ fun fr' e1 e2 => ?_
  rw [← hR]
  exact rtail_ok a rl ri k hB hlit hln hsk (by rw [e1 0 (by omega) (by omega)]; simp only [get_set_of, reduceCtorEq, ↓reduceIte]) e2
end Go.Proofs.Ytgnfkfmhjgbhhaa

noncomputable section
namespace Go.Ln
theorem RdInv.feedsM {most : Int} : ∀ {b : List Nat} {r : Rd}, RdInv r → RdInv (feedsM most r b).1
  | [], r, k => k
  | c :: b, r, k => by
    rw [Ln.feedsM]
    exact RdInv.feedsM (k.feedM (c := c))
theorem feedsM_take (most : Int) (r : Rd) {b : List Nat} {k : Nat} (h : k < b.length) : feedsM most r (b.take (k + 1)) = ((feedM most (feedsM most r (b.take k)).1 b[k]).1, (feedsM most r (b.take k)).2 ++ (feedM most (feedsM most r (b.take k)).1 b[k]).2) := by
  rw [List.take_succ_eq_append_getElem h, feedsM_append]
  simp [feedsM]
end Go.Ln
namespace Go.Proofs.Ytgnfkfmhjgbhhaa
open Go Go.Proofs Go.Vm Go.Ln
set_option linter.unusedVariables false
set_option maxRecDepth 100000
set_option linter.unusedSimpArgs false
theorem COk.keep {b : Nat} {S S' : Pos → Prop} {g g' : Hp} {vc : V} {gs : List Ln.Got} (t : COk b S g vc gs) (p : Stp S g S' g') : COk b S' g' vc gs := by
  obtain ⟨cs, o, i, w⟩ := t
  have nR : ∀ j, ¬ S j → j.nat < g.next.nat → ¬ S' j := fun j hn hj q => by
    rcases p.sub j q with q | q
    · exact hn q
    · omega
  exact ⟨cs, o.ch p.ch fun j hj => (i j hj).2, fun j hj => ⟨(i j hj).1, nR j (i j hj).2 (o.idlt hj).2⟩, w.ch p.ch fun j hj q => ⟨⟨q.1, nR j q.2.1 hj, q.2.2⟩, q.2.1⟩⟩
theorem COk.appS {b b' : Nat} {S S' : Pos → Prop} {g g' : Hp} {vc x : V} {gs gs2 : List Ln.Got} {cs2 : List V} (t : COk b S g vc gs) (p : Stp S g S' g') (hS : ∀ j, S' j → j.nat < g'.next.nat) (hb : b ≤ g.next.nat) (s2 : Sl b' g' 2 x gs2.length cs2) (w2 : GAt (fun j => g.next.nat ≤ j.nat ∧ ¬ S' j) g' gs2 cs2) (hl : gs.length + gs2.length < 1000000000) :
    ∃ vc' g2, oAppend 2 32 vc x g' = .ok vc' g2 ∧ COk b S' g2 vc' (gs ++ gs2) ∧ Ch (fun j => b ≤ j.nat ∧ ¬ S' j) g' g2 := by
  obtain ⟨cs, o, i, w⟩ := t
  have nR : ∀ j, ¬ S j → j.nat < g.next.nat → ¬ S' j := fun j hn hj q => by
    rcases p.sub j q with q | q
    · exact hn q
    · omega
  have o1 : Own 0 g' 2 vc gs.length cs := o.ch p.ch fun j hj => (i j hj).2
  have i1 : ∀ j, idOf vc = some j → b ≤ j.nat ∧ ¬ S' j := fun j hj => ⟨(i j hj).1, nR j (i j hj).2 (o.idlt hj).2⟩
  have w1 : GAt (fun j => b ≤ j.nat ∧ ¬ S' j ∧ idOf vc ≠ some j) g' gs cs := w.ch p.ch fun j hj q => ⟨⟨q.1, nR j q.2.1 hj, q.2.2⟩, q.2.1⟩
  have w2' : GAt (fun j => b ≤ j.nat ∧ ¬ S' j ∧ idOf vc ≠ some j) g' gs2 cs2 := w2.ch (Ch.refl (fun _ => False) _) fun j hj q => by
    have q1 : g.next.nat ≤ j.nat := q.1
    exact ⟨⟨by omega, q.2, fun q' => by have := (o.idlt q').2; omega⟩, fun q => q⟩
  by_cases h0 : gs2.length = 0
  · have hg : gs2 = [] := List.length_eq_zero_iff.1 h0
    subst hg
    have hcs : cs2 = [] := w2
    subst hcs
    have e0 := app0_ok (bt := 32) o1 s2
    rw [List.append_nil]
    exact ⟨vc, g', e0, ⟨cs, o1, i1, w1⟩, Ch.refl _ _⟩
  · obtain ⟨vc', g2, e1, e2, e3, o3, c2⟩ := app_ok (bt := 32) o1 s2 (by omega) (by omega)
    have hvc' : ∀ j, idOf vc' = some j → j = g'.next := fun j hj => by rw [e2] at hj; cases hj; rfl
    have hn2 := p.ch.next
    refine ⟨vc', g2, e1, ⟨cs ++ cs2, by rw [List.length_append]; exact o3, fun j hj => ?_, GAt.app ?_ ?_⟩, c2.mono fun j _ q => i1 j q⟩
    · rw [hvc' j hj]
      exact ⟨by omega, fun q => by have := hS _ q; omega⟩
    · exact w2'.ch c2 fun j hj q => ⟨⟨q.1, q.2.1, fun q' => by rw [hvc' j q'] at hj; omega⟩, q.2.2⟩
    · exact w1.ch c2 fun j hj q => ⟨⟨q.1, q.2.1, fun q' => by rw [hvc' j q'] at hj; omega⟩, q.2.2⟩
variable {most : Int} {h g : Hp} {i : Pos} {x : Rr} {r : Rd} {vt vl vq vb vo : V} {bs : List Nat} {B c : Nat} {S0 : Pos → Prop}
/-- the reference, after k bytes -/
structure RFeedS (most : Int) (i : Pos) (h : Hp) (S0 : Pos → Prop) (c B : Nat) (r : Rd) (bs : List Nat) (vb : V) (k : Nat) (g : Hp) (vo : V) (x : Rr) (vt vl vq : V) : Prop where
  a : RrAt most g i x vt vl vq
  rl : RrRel (feedsM most r (bs.take k)).1 x
  ri : RdInv (feedsM most r (bs.take k)).1
  ok : RdOk most (B + 2 * k) (feedsM most r (bs.take k)).1
  p : Stp S0 h (RrF i vt vl vq) g
  t : COk h.next.nat (RrF i vt vl vq) g vo (feedsM most r (bs.take k)).2
def RFeedI (most : Int) (i : Pos) (h : Hp) (S0 : Pos → Prop) (c B : Nat) (r : Rd) (bs : List Nat) (vb : V) (m : Nat) (fr : F) (g : Hp) : Prop :=
  ∃ (k : Nat) (vo : V) (x : Rr) (vt vl vq : V), fr.get (Pos.of 0) = some (.ptr i 0) ∧ fr.get (Pos.of 1) = some vb ∧ fr.get (Pos.of 5) = some vo ∧ fr.get (Pos.of 6) = some (.int .i64 (k : Int)) ∧ k + m = bs.length ∧ RFeedS most i h S0 c B r bs vb k g vo x vt vl vq
def RFeedA (most : Int) (i : Pos) (h : Hp) (S0 : Pos → Prop) (r : Rd) (bs : List Nat) (fr : F) (g : Hp) : Prop :=
  ∃ (vo : V) (x : Rr) (vt vl vq : V), fr.get (Pos.of 5) = some vo ∧ RrAt most g i x vt vl vq ∧ RrRel (feedsM most r bs).1 x ∧ Stp S0 h (RrF i vt vl vq) g ∧ COk h.next.nat (RrF i vt vl vq) g vo (feedsM most r bs).2
theorem rfeed_step (hm : 0 ≤ most) (s : Sl c h 1 vb bs.length (bys bs)) (hc : c ≤ h.next.nat) (hid : ∀ j, idOf vb = some j → ¬ S0 j) (hB : B + 2 * bs.length < 800000000) (h256 : ∀ x ∈ bs, x < 256) (m : Nat) (fr : F) (g : Hp) (I : RFeedI most i h S0 c B r bs vb m fr g) :
    LS 0 (fun fr g => ∃ m', m' < m ∧ RFeedI most i h S0 c B r bs vb m' fr g) (RFeedA most i h S0 r bs) (fun _ _ => False) (Tryb17_3 fr g) := by
  obtain ⟨k, vo, x, vt, vl, vq, f0, f1, f5, f6, hk, f⟩ := I
  by_cases hlt : k < bs.length
  · have hlt' : (k : Int) < (bs.length : Int) := by omega
    have sg := s.ch f.p.ch hc hid
    obtain ⟨j, q, y, hy, e1, hj, e2⟩ := sg.at1 hlt
    have hy' : y = .int .u8 ((bs[k] : Nat) : Int) := by
      rw [bys, List.getElem?_map, List.getElem?_eq_getElem hlt] at hy
      cases hy; rfl
    subst hy'
    have e2' := e2 g rfl
    have hd256 := h256 bs[k] (List.getElem_mem hlt)
    obtain ⟨d, hd⟩ : ∃ d, d = bs[k] := ⟨_, rfl⟩
    obtain ⟨r', hr'⟩ : ∃ r', r' = (feedsM most r (bs.take k)).1 := ⟨_, rfl⟩
    obtain ⟨gs, hgs⟩ : ∃ gs, gs = (feedsM most r (bs.take k)).2 := ⟨_, rfl⟩
    have hstep := feedsM_take most r hlt
    have hlen := feedsM_len most (bs.take k) r
    rw [List.length_take] at hlen
    obtain ⟨fa, frl, fri, fk, fp, ft⟩ := f
    rw [← hgs] at ft hlen
    rw [← hr'] at frl fri fk
    rw [← hr', ← hgs, ← hd] at hstep
    rw [← hd] at e2' hd256
    have fk' := fk.feedM hm hd256
    have fri' := fri.feedM (most := most) (c := d)
    have hmu := fk.mu
    unfold Rd.mu at hmu
    have hmax := fk.mmax
    have hcnt := fk.cnt
    have hil := inter_len r'.texts r'.lits
    rw [← frl.els] at hil
    have go : ∀ {g2 : Hp} {vo2 : V} {x2 : Rr} {vt2 vl2 vq2 : V}, RrAt most g2 i x2 vt2 vl2 vq2 → RrRel (feedM most r' d).1 x2 → Stp S0 h (RrF i vt2 vl2 vq2) g2 → COk h.next.nat (RrF i vt2 vl2 vq2) g2 vo2 (gs ++ (feedM most r' d).2) →
        ∀ fr' : F, fr'.get (Pos.of 0) = some (.ptr i 0) → fr'.get (Pos.of 1) = some vb → fr'.get (Pos.of 5) = some vo2 → fr'.get (Pos.of 6) = some (.int .i64 ((k : Int) + 1)) → ∃ m', m' < m ∧ RFeedI most i h S0 c B r bs vb m' fr' g2 := fun a2 rl2 p2 t2 fr' q0 q1 q5 q6 =>
      ⟨m - 1, by omega, k + 1, _, _, _, _, _, q0, q1, q5, q6, by omega, a2, by rw [hstep]; exact rl2, by rw [hstep]; exact fri', by rw [hstep]; exact fk'.le (by omega), p2, by rw [hstep]; exact t2⟩
    have quiet : ∀ {g2 : Hp} {x2 : Rr} {r2 : Rd} {vt2 vl2 vq2 : V}, feedM most r' d = (r2, []) → RrAt most g2 i x2 vt2 vl2 vq2 → RrRel r2 x2 → Stp (RrF i vt vl vq) g (RrF i vt2 vl2 vq2) g2 →
        ∀ fr' : F, fr'.get (Pos.of 0) = some (.ptr i 0) → fr'.get (Pos.of 1) = some vb → fr'.get (Pos.of 5) = some vo → fr'.get (Pos.of 6) = some (.int .i64 ((k : Int) + 1)) → ∃ m', m' < m ∧ RFeedI most i h S0 c B r bs vb m' fr' g2 := fun hf a2 rl2 p2 fr' q0 q1 q5 q6 =>
      go a2 (by rw [hf]; exact rl2) (fp.trans p2) (by rw [hf, List.append_nil]; exact ft.keep p2) fr' q0 q1 q5 q6
    have L8 := fa.fld.2.2.2.2.2.2.2.2.1
    rw [frl.skip] at L8
    by_cases hs0 : r'.skip > 0
    · -- to be passed over
      have hs0' : (r'.skip : Int) > 0 := by omega
      obtain ⟨g2, s2, a2, p2, -⟩ := fa.set_skip (r'.skip - 1)
      rw [show ((r'.skip - 1 : Nat) : Int) = (r'.skip : Int) - 1 by omega] at s2
      have hf : feedM most r' d = ({ r' with skip := r'.skip - 1 }, []) := by unfold feedM; rw [if_pos hs0]
      have hsm := fk.smax
      simp (disch := omega) only [seqO_eq, thenO_nor, gtO_some, bndO_ok, get_set_of, cndX_tmp, ifB_true, blkO_eq, blkX_nor, Nat.reduceEqDiff, reduceCtorEq, ↓reduceIte, oBin_add, oBin_sub, oBin_lss, oBin_gtr, oFieldAddr_eq, oNilCheck_ptr, Nat.zero_add, decide_true, Tryb17_3, Tryr17_3, Tryr17_5, Tryr17_12, Tryr17_13, Tryr17_4, f0, f1, f6, s.length, hlt', e1, e2', L8, hs0', s2]
      exact quiet hf a2 ⟨frl.now, frl.els, frl.long, frl.wide, frl.want, frl.lit, frl.on, rfl, frl.line⟩ p2 _ (by simp only [get_set_of, reduceCtorEq, ↓reduceIte, f0]) (by simp only [get_set_of, Nat.reduceEqDiff, ↓reduceIte, f1]) (by simp only [get_set_of, Nat.reduceEqDiff, ↓reduceIte, f5]) (by simp only [get_set_of, ↓reduceIte])
    have hs0' : ¬ (r'.skip : Int) > 0 := by omega
    have L9 := fa.fld.2.2.2.2.2.2.2.2.2
    rw [frl.line] at L9
    cases hline : r'.line with
    | true =>
      rw [hline] at L9
      have hlit := fri.line hline
      obtain ⟨g2, s2, a2, p2, -⟩ := fa.set_line (decide (d ≠ 10))
      have hf : feedM most r' d = ({ r' with line := decide (d ≠ 10) }, []) := by unfold feedM; rw [if_neg hs0, hlit, hline]; rfl
      have rl2 : RrRel { r' with line := decide (d ≠ 10) } { x with line := decide (d ≠ 10) } := ⟨frl.now, frl.els, frl.long, frl.wide, frl.want, frl.lit, frl.on, frl.skip, rfl⟩
      by_cases h10 : d = 10
      · have h10' : (d : Int) = 10 := by omega
        rw [decide_eq_false (fun q => q h10)] at s2
        simp (disch := omega) only [seqO_eq, thenO_nor, gtO_some, bndO_ok, get_set_of, cndX_tmp, ifB_true, ifB_false, blkO_eq, blkX_nor, Nat.reduceEqDiff, reduceCtorEq, ↓reduceIte, oBin_add, oBin_neq, oBin_lss, oBin_gtr, oFieldAddr_eq, oNilCheck_ptr, Nat.zero_add, decide_true, decide_false, ne_eq, not_true, Tryb17_3, Tryr17_3, Tryr17_5, Tryr17_12, Tryr17_14, Tryr17_15, Tryr17_4, f0, f1, f6, s.length, hlt', e1, e2', L8, hs0', L9, eq_true h10', s2]
        exact quiet hf a2 rl2 p2 _ (by simp only [get_set_of, reduceCtorEq, ↓reduceIte, f0]) (by simp only [get_set_of, Nat.reduceEqDiff, ↓reduceIte, f1]) (by simp only [get_set_of, Nat.reduceEqDiff, ↓reduceIte, f5]) (by simp only [get_set_of, ↓reduceIte])
      · have h10' : ¬ (d : Int) = 10 := by omega
        rw [decide_eq_true h10] at s2
        simp (disch := omega) only [seqO_eq, thenO_nor, gtO_some, bndO_ok, get_set_of, cndX_tmp, ifB_true, ifB_false, blkO_eq, blkX_nor, Nat.reduceEqDiff, reduceCtorEq, ↓reduceIte, oBin_add, oBin_neq, oBin_lss, oBin_gtr, oFieldAddr_eq, oNilCheck_ptr, Nat.zero_add, decide_true, decide_false, ne_eq, not_false_eq_true, Tryb17_3, Tryr17_3, Tryr17_5, Tryr17_12, Tryr17_14, Tryr17_15, Tryr17_4, f0, f1, f6, s.length, hlt', e1, e2', L8, hs0', L9, h10', s2]
        exact quiet hf a2 rl2 p2 _ (by simp only [get_set_of, reduceCtorEq, ↓reduceIte, f0]) (by simp only [get_set_of, Nat.reduceEqDiff, ↓reduceIte, f1]) (by simp only [get_set_of, Nat.reduceEqDiff, ↓reduceIte, f5]) (by simp only [get_set_of, ↓reduceIte])
    | false =>
      rw [hline] at L9
      have L7 := fa.fld.2.2.2.2.2.2.2.1
      rw [frl.on] at L7
      cases hlit : r'.literal with
      | true =>
        rw [hlit] at L7 hcnt
        have hxl := frl.lit hlit
        have hxw := frl.want hlit
        have hw0 := fk.want hlit
        have L6 := fa.fld.2.2.2.2.2.2.1
        obtain ⟨vq2, g1, c1, c2, c3, c4, c5⟩ := app1_ok (bt := 1) (new := [V.int .u8 (d : Int)]) fa.q rfl (by rw [hxl]; omega)
        obtain ⟨g2, s2, a2, p2, -⟩ := fa.set_lit (l := x.lit ++ [d]) c4 (by rw [List.length_append, bys_append]; exact c3) (fun j hj => by rw [c2] at hj; cases hj; rw [Pos.nat_succ]; omega)
        obtain ⟨u, g3, vl3, e23, a3, p3⟩ := filled_ok a2 (by show x.els.length < _; omega) (fun y hy => by
          rcases List.mem_append.1 hy with hy | hy
          · rw [hxl] at hy; exact fk.qb y hy
          · rw [List.mem_singleton.1 hy]; exact hd256) (by show x.on = true; rw [frl.on, hlit])
        have hl2 : ({ x with lit := x.lit ++ [d] } : Rr).lit.length = r'.lit.length + 1 := by show (x.lit ++ [d]).length = _; rw [List.length_append, hxl]; rfl
        simp (disch := omega) only [seqO_eq, thenO_nor, gtO_some, bndO_ok, get_set_of, cndX_tmp, ifB_true, ifB_false, blkO_eq, blkX_nor, Nat.reduceEqDiff, reduceCtorEq, ↓reduceIte, oBin_add, oBin_lss, oBin_gtr, oFieldAddr_eq, oBuildSlice_1, oNilCheck_ptr, Nat.zero_add, decide_true, decide_false, Tryb17_3, Tryr17_3, Tryr17_5, Tryr17_12, Tryr17_14, Tryr17_16, Tryr17_17, Tryr17_18, Tryr17_4, f0, f1, f6, s.length, hlt', e1, e2', L8, hs0', L9, L7, L6, c1, s2, e23]
        by_cases hw1 : r'.want ≤ 1
        · have hf : feedM most r' d = ({ r' with want := 0, lits := r'.lits ++ [r'.lit ++ [d]], lit := [], literal := false }, []) := by unfold feedM; rw [if_neg hs0, hlit, if_pos rfl, if_pos hw1]
          rw [if_pos (by rw [hl2]; show _ = x.want; omega)] at a3
          refine quiet hf a3 ⟨frl.now, ?_, frl.long, frl.wide, fun q => (by cases q), fun q => (by cases q), rfl, frl.skip, frl.line⟩ (p2.trans p3) _ (by simp only [get_set_of, reduceCtorEq, ↓reduceIte, f0]) (by simp only [get_set_of, Nat.reduceEqDiff, ↓reduceIte, f1]) (by simp only [get_set_of, Nat.reduceEqDiff, ↓reduceIte, f5]) (by simp only [get_set_of, ↓reduceIte])
          show x.els ++ [.l (x.lit ++ [d])] = inter r'.texts (r'.lits ++ [r'.lit ++ [d]])
          rw [inter_lit _ (by rw [hcnt]; rfl), frl.els, hxl]
        · have hf : feedM most r' d = ({ r' with want := r'.want - 1, lit := r'.lit ++ [d] }, []) := by unfold feedM; rw [if_neg hs0, hlit, if_pos rfl, if_neg hw1]
          rw [if_neg (by rw [hl2]; show ¬ _ = x.want; omega)] at a3
          refine quiet hf a3 ⟨frl.now, frl.els, frl.long, frl.wide, fun q => ?_, fun q => ?_, ?_, frl.skip, frl.line⟩ (p2.trans p3) _ (by simp only [get_set_of, reduceCtorEq, ↓reduceIte, f0]) (by simp only [get_set_of, Nat.reduceEqDiff, ↓reduceIte, f1]) (by simp only [get_set_of, Nat.reduceEqDiff, ↓reduceIte, f5]) (by simp only [get_set_of, ↓reduceIte])
          · show x.want = r'.want - 1 + (r'.lit ++ [d]).length
            rw [List.length_append, List.length_singleton]; omega
          · show x.lit ++ [d] = r'.lit ++ [d]
            rw [hxl]
          · show x.on = r'.literal
            exact frl.on
      | false =>
        rw [hlit] at L7
        by_cases h10 : d = 10
        · -- a text's end
          have h10' : (d : Int) = 10 := by omega
          have hf : feedM most r' d = endM most r' := by unfold feedM; rw [if_neg hs0, hlit, hline, if_neg (by simp), if_neg (by simp), if_pos h10]
          obtain ⟨v, g2, e24, x2, vt2, vl2, vq2, cs2, a2, rl2, p2, sx, wx⟩ := rline_ok fa frl fri fk (by omega) hlit hline (by omega)
          have hle : (endM most r').2.length ≤ 1 := by
            unfold endM
            repeat' split
            all_goals simp
          obtain ⟨vo2, g3, e32, t3, c3⟩ := ft.appS p2 (fun j q => a2.idlt q) fp.ch.next sx wx (by omega)
          simp (disch := omega) only [seqO_eq, thenO_nor, gtO_some, bndO_ok, get_set_of, cndX_tmp, ifB_true, ifB_false, blkO_eq, blkX_nor, Nat.reduceEqDiff, reduceCtorEq, ↓reduceIte, oBin_add, oBin_eql, oBin_lss, oBin_gtr, oFieldAddr_eq, oNilCheck_ptr, Nat.zero_add, decide_true, decide_false, Tryb17_3, Tryr17_3, Tryr17_5, Tryr17_12, Tryr17_14, Tryr17_16, Tryr17_19, Tryr17_20, Tryr17_4, f0, f1, f5, f6, s.length, hlt', e1, e2', L8, hs0', L9, L7, eq_true h10', e24, e32]
          refine go (vo2 := vo2) (a2.ch c3 fun j q q' => q'.2 q) (by rw [hf]; exact rl2) ((fp.trans p2).late c3 fun j q => q.1) ?_ _ (by simp only [get_set_of, reduceCtorEq, ↓reduceIte, f0]) (by simp only [get_set_of, Nat.reduceEqDiff, ↓reduceIte, f1]) (by simp only [get_set_of, Nat.reduceEqDiff, ↓reduceIte]) (by simp only [get_set_of, ↓reduceIte])
          rw [hf]; exact t3
        · have h10' : ¬ (d : Int) = 10 := by omega
          have L3 := fa.fld.2.2.2.1
          rw [frl.long] at L3
          have L1 := fa.fld.2.1
          have B3 := ld_bump 0 i 3 L3
          have B1 := ld_bump 0 i 1 L1
          have Ll : ∀ h', oLenK 2 vt h' = .ok (.int .i64 (r'.now.length : Int)) h' := fun h' => by
            have := fa.t.sl.length (h' := h')
            rw [frl.now] at this
            exact this
          have hfl : feedM most r' d = (if r'.long + (r'.now.length + 1) > 4096 ∧ (d ≠ 13 ∨ r'.long + (r'.now.length + 1) > 4097) then ({ line := true }, [⟨3, .nil⟩]) else ({ r' with now := r'.now ++ [d] }, [])) := by
            unfold feedM; rw [if_neg hs0, hlit, hline, if_neg (by simp), if_neg (by simp), if_neg h10]
          have over : ∀ (hcond : r'.long + (r'.now.length + 1) > 4096 ∧ (d ≠ 13 ∨ r'.long + (r'.now.length + 1) > 4097)), ∃ (u : V) (g3 g4 g5 : Hp) (vo' : V), TryF25 [.ptr i 0] g = .ok u g3 ∧ oStore 1 (.ptr i 9) (.bool true) g3 = .ok V.undef g4 ∧ oAppend 2 32 vo (.slice g4.next 0 1 (.kn 1)) (g4.new (.cells true [.int .i64 3, .nils])) = .ok vo' g5 ∧
              ∀ fr' : F, fr'.get (Pos.of 0) = some (.ptr i 0) → fr'.get (Pos.of 1) = some vb → fr'.get (Pos.of 5) = some vo' → fr'.get (Pos.of 6) = some (.int .i64 ((k : Int) + 1)) → ∃ m', m' < m ∧ RFeedI most i h S0 c B r bs vb m' fr' g5 := fun hcond => by
            have hf : feedM most r' d = ({ line := true }, [⟨3, .nil⟩]) := by rw [hfl, if_pos hcond]
            obtain ⟨u, g3, e25, a3, p3, -⟩ := rreset_ok fa
            obtain ⟨g4, s4, a4, p4, -⟩ := a3.set_line true
            have cc : Ch (fun _ => False) g4 (g4.new (.cells true [.int .i64 3, .nils])) := Ch.new _ _ _
            have p5 := (p3.trans p4).step cc fun j q => q.elim
            have a5 := a4.ch cc fun _ _ q => q
            have sx := Sl.made (h := g4) [V.int .i64 3, V.nils]
            obtain ⟨vo', g5, e5, t5, c5⟩ := ft.appS (gs2 := [⟨3, .nil⟩]) p5 (fun j q => a5.idlt q) fp.ch.next sx (GAt.one (WRow.nil _ _)) (by simp only [List.length_singleton]; omega)
            refine ⟨u, g3, g4, g5, vo', e25, s4, e5, fun fr' q0 q1 q5 q6 => go (vo2 := vo') (a5.ch c5 fun j q q' => q'.2 q) ?_ ((fp.trans p5).late c5 fun j q => q.1) (by rw [hf]; exact t5) fr' q0 q1 q5 q6⟩
            rw [hf]
            refine ⟨rfl, rfl, rfl, rfl, fun q => (by cases q), fun q => (by cases q), rfl, ?_, rfl⟩
            show x.skip = 0
            rw [frl.skip]; omega
          obtain ⟨vt2, g1, c1, c2, c3, c4, c5⟩ := app1_ok (bt := 1) (new := [V.int .u8 (d : Int)]) fa.t rfl (by rw [frl.now]; omega)
          obtain ⟨g2, s2, a2, p2, -⟩ := fa.set_now (l := x.now ++ [d]) c4 (by rw [List.length_append, bys_append]; exact c3) (fun j hj => by rw [c2] at hj; cases hj; rw [Pos.nat_succ]; omega)
          have nt : ∀ (hcond : ¬ (r'.long + (r'.now.length + 1) > 4096 ∧ (d ≠ 13 ∨ r'.long + (r'.now.length + 1) > 4097))), ∀ fr' : F, fr'.get (Pos.of 0) = some (.ptr i 0) → fr'.get (Pos.of 1) = some vb → fr'.get (Pos.of 5) = some vo → fr'.get (Pos.of 6) = some (.int .i64 ((k : Int) + 1)) → ∃ m', m' < m ∧ RFeedI most i h S0 c B r bs vb m' fr' g2 := fun hcond =>
            quiet (r2 := { r' with now := r'.now ++ [d] }) (by rw [hfl, if_neg hcond]) a2 ⟨by show x.now ++ [d] = r'.now ++ [d]; rw [frl.now], frl.els, frl.long, frl.wide, frl.want, frl.lit, frl.on, frl.skip, frl.line⟩ p2
          by_cases h97 : r'.long + r'.now.length + 1 > 4097
          · have h97' : (r'.long : Int) + (r'.now.length : Int) + 1 > 4097 := by omega
            obtain ⟨u, g3, g4, g5, vo', e25, s4, e5, f'⟩ := over ⟨by omega, .inr (by omega)⟩
            simp (disch := omega) only [seqO_eq, thenO_nor, gtO_some, bndO_ok, get_set_of, cndX_tmp, ifB_true, ifB_false, ifB_neg, blkO_eq, blkX_nor, Nat.reduceEqDiff, reduceCtorEq, ↓reduceIte, oBin_add, oBin_eql, oBin_neq, oBin_lss, oBin_gtr, oFieldAddr_eq, oBuildSlice_2, bumpH_zero, oNilCheck_ptr, Nat.zero_add, bumpH_zero, decide_true, decide_false, ne_eq, Tryb17_3, Tryr17_3, Tryr17_5, Tryr17_12, Tryr17_14, Tryr17_16, Tryr17_19, Tryr17_6, Tryr17_7, Tryr17_8, Tryr17_9, Tryr17_10, Tryr17_4, f0, f1, f5, f6, s.length, hlt', e1, e2', L8, hs0', L9, L7, h10', L3, L1, Ll, h97', e25, s4, oBuild_g0, oBuildSlice_2, e5]
            exact f' _ (by simp only [get_set_of, reduceCtorEq, ↓reduceIte, f0]) (by simp only [get_set_of, Nat.reduceEqDiff, ↓reduceIte, f1]) (by simp only [get_set_of, Nat.reduceEqDiff, ↓reduceIte]) (by simp only [get_set_of, ↓reduceIte])
          · have h97' : ¬ (r'.long : Int) + (r'.now.length : Int) + 1 > 4097 := by omega
            by_cases h96 : r'.long + r'.now.length + 1 = 4097
            · have h96' : (r'.long : Int) + (r'.now.length : Int) + 1 = 4097 := by omega
              by_cases h13 : d = 13
              · have h13' : (d : Int) = 13 := by omega
                have f' := nt (by omega)
                simp (disch := omega) only [seqO_eq, thenO_nor, gtO_some, bndO_ok, get_set_of, cndX_tmp, ifB_true, ifB_false, blkO_eq, blkX_nor, Nat.reduceEqDiff, reduceCtorEq, ↓reduceIte, oBin_add, oBin_eql, oBin_neq, oBin_lss, oBin_gtr, oFieldAddr_eq, oBuildSlice_1, bumpH_zero, oNilCheck_ptr, Nat.zero_add, bumpH_zero, decide_true, decide_false, ne_eq, not_true, Tryb17_3, Tryr17_3, Tryr17_5, Tryr17_12, Tryr17_14, Tryr17_16, Tryr17_19, Tryr17_6, Tryr17_7, Tryr17_11, Tryr17_4, f0, f1, f6, s.length, hlt', e1, e2', L8, hs0', L9, L7, h10', L3, L1, Ll, h97', eq_true h96', eq_true h13', c1, s2]
                exact f' _ (by simp only [get_set_of, reduceCtorEq, ↓reduceIte, f0]) (by simp only [get_set_of, Nat.reduceEqDiff, ↓reduceIte, f1]) (by simp only [get_set_of, Nat.reduceEqDiff, ↓reduceIte, f5]) (by simp only [get_set_of, ↓reduceIte])
              · have h13' : ¬ (d : Int) = 13 := by omega
                obtain ⟨u, g3, g4, g5, vo', e25, s4, e5, f'⟩ := over ⟨by omega, .inl h13⟩
                simp (disch := omega) only [seqO_eq, thenO_nor, gtO_some, bndO_ok, get_set_of, cndX_tmp, ifB_true, ifB_false, blkO_eq, blkX_nor, Nat.reduceEqDiff, reduceCtorEq, ↓reduceIte, oBin_add, oBin_eql, oBin_neq, oBin_lss, oBin_gtr, oFieldAddr_eq, oBuildSlice_2, bumpH_zero, oNilCheck_ptr, Nat.zero_add, bumpH_zero, decide_true, decide_false, ne_eq, not_false_eq_true, Tryb17_3, Tryr17_3, Tryr17_5, Tryr17_12, Tryr17_14, Tryr17_16, Tryr17_19, Tryr17_6, Tryr17_7, Tryr17_8, Tryr17_9, Tryr17_10, Tryr17_4, f0, f1, f5, f6, s.length, hlt', e1, e2', L8, hs0', L9, L7, h10', L3, L1, Ll, h97', eq_true h96', h13', e25, s4, oBuild_g0, oBuildSlice_2, e5]
                exact f' _ (by simp only [get_set_of, reduceCtorEq, ↓reduceIte, f0]) (by simp only [get_set_of, Nat.reduceEqDiff, ↓reduceIte, f1]) (by simp only [get_set_of, Nat.reduceEqDiff, ↓reduceIte]) (by simp only [get_set_of, ↓reduceIte])
            · have h96' : ¬ (r'.long : Int) + (r'.now.length : Int) + 1 = 4097 := by omega
              have f' := nt (by omega)
              simp (disch := omega) only [seqO_eq, thenO_nor, gtO_some, bndO_ok, get_set_of, cndX_tmp, ifB_true, ifB_false, blkO_eq, blkX_nor, Nat.reduceEqDiff, reduceCtorEq, ↓reduceIte, oBin_add, oBin_eql, oBin_neq, oBin_lss, oBin_gtr, oFieldAddr_eq, oBuildSlice_1, bumpH_zero, oNilCheck_ptr, Nat.zero_add, bumpH_zero, decide_true, decide_false, ne_eq, Tryb17_3, Tryr17_3, Tryr17_5, Tryr17_12, Tryr17_14, Tryr17_16, Tryr17_19, Tryr17_6, Tryr17_7, Tryr17_11, Tryr17_4, f0, f1, f6, s.length, hlt', e1, e2', L8, hs0', L9, L7, h10', L3, L1, Ll, h97', h96', c1, s2]
              exact f' _ (by simp only [get_set_of, reduceCtorEq, ↓reduceIte, f0]) (by simp only [get_set_of, Nat.reduceEqDiff, ↓reduceIte, f1]) (by simp only [get_set_of, Nat.reduceEqDiff, ↓reduceIte, f5]) (by simp only [get_set_of, ↓reduceIte])
  · have hlt' : ¬ (k : Int) < (bs.length : Int) := by omega
    have hkl : bs.take k = bs := List.take_of_length_le (by omega)
    obtain ⟨fa, frl, fri, fk, fp, ft⟩ := f
    rw [hkl] at frl ft
    simp (disch := omega) only [seqO_eq, thenO_nor, thenO_ex, gtO_some, bndO_ok, get_set_of, cndX_tmp, ifB_false, ↓reduceIte, oBin_lss, decide_false, Tryb17_3, Tryr17_3, f1, f6, s.length, hlt']
    exact ⟨rfl, vo, x, vt, vl, vq, by simp only [get_set_of, Nat.reduceEqDiff, ↓reduceIte, f5], fa, frl, fp, ft⟩
/-- what the reference's Feed tells -/
theorem rfeed_ok (hm : 0 ≤ most) (a : RrAt most h i x vt vl vq) (rl : RrRel r x) (ri : RdInv r) (k : RdOk most B r) (hB : B + 2 * bs.length < 800000000) (s : Sl c h 1 vb bs.length (bys bs)) (hb : ∀ j, idOf vb = some j → ¬ RrF i vt vl vq j) (hc : c ≤ h.next.nat) (h256 : ∀ x ∈ bs, x < 256) :
    ∃ v g x' vt' vl' vq', TryF17 [.ptr i 0, vb] h = .ok v g ∧ RrAt most g i x' vt' vl' vq' ∧ RrRel (feedsM most r bs).1 x' ∧ Stp (RrF i vt vl vq) h (RrF i vt' vl' vq') g ∧ Told (fun j => h.next.nat ≤ j.nat ∧ ¬ RrF i vt' vl' vq' j) g v (feedsM most r bs).2 := by
  suffices hs : Tells Try.prog [.tmp 4] (fun v g => ∃ x' vt' vl' vq', RrAt most g i x' vt' vl' vq' ∧ RrRel (feedsM most r bs).1 x' ∧ Stp (RrF i vt vl vq) h (RrF i vt' vl' vq') g ∧ Told (fun j => h.next.nat ≤ j.nat ∧ ¬ RrF i vt' vl' vq' j) g v (feedsM most r bs).2) (Tryd17 (T.set (some vb) (Pos.of 1) (T.set (some (.ptr i 0)) (Pos.of 0) T.nil)) h) by
    rw [TryF17_eq]
    obtain ⟨v, g, e, x', vt', vl', vq', q⟩ := hs
    exact ⟨v, g, x', vt', vl', vq', e, q⟩
  simp (disch := omega) only [seqO_eq, thenO_nor, blkO_eq, Tryd17, Tryr17_0, Tryr17_1, Tryr17_2]
  refine Oc.then (loop_rule (n := bs.length) (RFeedI most i h (RrF i vt vl vq) c B r bs vb) (A := RFeedA most i h (RrF i vt vl vq) r bs) (B := fun _ _ => False) (by rw [lf_eq]; omega) ?_ (fun m fr g I => rfeed_step hm s hc hb hB h256 m fr g I)) ?_ ?_
  · exact ⟨0, .nils, x, vt, vl, vq, by simp only [get_set_of, Nat.zero_ne_one, reduceCtorEq, ↓reduceIte], by simp only [get_set_of, Nat.reduceEqDiff, ↓reduceIte], by simp only [get_set_of, Nat.reduceEqDiff, ↓reduceIte], by simp only [get_set_of, ↓reduceIte]; rfl, by omega, a, rl, ri, k, Stp.refl _ _, COk.nil _ _ _⟩
  · rintro fr g ⟨vo, x', vt', vl', vq', f5, a', rl', p', t'⟩
    simp (disch := omega) only [seqO_eq, thenO_nor, gtO_some, Tryr17_21, f5]
    exact Tells.ret (by simp only [resK, get_set_of, ↓reduceIte, tupR] <;> rfl) ⟨x', vt', vl', vq', a', rl', p', t'.told⟩
  · rintro fr g q
    exact q.elim
theorem rnew_ok (most : Int) (h : Hp) : ∃ h', TryF14 [.int .i64 most] h = .ok (.ptr h.next 0) h' ∧ RrAt (max most 1) h' h.next {} .nils .nils .nils ∧ Ch (fun _ => False) h h' ∧ h'.next.nat = h.next.nat + 1 := by
  rw [TryF14_eq]
  simp (disch := omega) only [seqO_eq, thenO_nor, gtO_some, bndO_ok, get_set_of, reduceCtorEq, ↓reduceIte, oMax_eq, Tryd14, Tryr14_0, Tryr14_1, oBuild_rr, oBox_agg, outR, resK, tupR]
  exact ⟨_, rfl, RrAt.fresh (by rw [new_next_nat]; omega) (new_self _ _), Ch.new _ _ _, new_next_nat _ _⟩
end Go.Proofs.Ytgnfkfmhjgbhhaa

noncomputable section
namespace Go.Vm
theorem eqV_sl {h : Hp} {b sz n : Nat} {v : V} {cs : List V} (s : Sl b h sz v n cs) : eqV v v = true := by
  rcases s.is with ⟨_, rfl | rfl⟩ | ⟨i, o, cp, wr, all, rfl, _⟩
  · rfl
  · rfl
  · clear s
    cases cp with
    | kn a =>
      show (match i.eq i, Nat.beq o o, Nat.beq n n with
        | true, true, true => Nat.beq a a
        | _, _, _ => false) = true
      rw [Pos.eq_self, Nat.beq_refl, Nat.beq_refl, Nat.beq_refl]
    | un a =>
      show (match i.eq i, Nat.beq o o, Nat.beq n n with
        | true, true, true => Nat.beq a a
        | _, _, _ => false) = true
      rw [Pos.eq_self, Nat.beq_refl, Nat.beq_refl, Nat.beq_refl]
/-- a row of rows of bytes, as it came in -/
def Ins (c : Nat) (h : Hp) (v1 : V) (ls : List (List Nat)) : Prop := ∃ vs, Sl c h 1 v1 ls.length vs ∧ ∀ (k : Nat) (l : List Nat), ls[k]? = some l → ∃ v, vs[k]? = some v ∧ Sl c h 1 v l.length (bys l) ∧ capOk 1 v
theorem Ins.len {c : Nat} {h : Hp} {v1 : V} {ls : List (List Nat)} (s : Ins c h v1 ls) (h' : Hp) : oLenK 2 v1 h' = .ok (.int .i64 (ls.length : Int)) h' := by
  obtain ⟨vs, s, -⟩ := s
  exact s.length
theorem Ins.at {c : Nat} {h : Hp} {v1 : V} {ls : List (List Nat)} (s : Ins c h v1 ls) (hc : c ≤ h.next.nat) {k : Nat} (hk : k < ls.length) :
    ∃ j q v, (∀ h', oIdxS 1 v1 (.int .i64 (k : Int)) h' = .ok (.ptr j q) h') ∧ (∀ h', Ch (fun _ => False) h h' → oLoad1 (.ptr j q) h' = .ok v h' ∧ Sl c h' 1 v ls[k].length (bys ls[k])) ∧ capOk 1 v ∧ eqV v v = true ∧ ∀ i, idOf v = some i → i.nat < c := by
  obtain ⟨vs, s, w⟩ := s
  obtain ⟨j, q, x, hx, e1, hj, e2⟩ := s.at1 hk
  obtain ⟨v, hv, sv, cv⟩ := w k _ (List.getElem?_eq_getElem hk)
  rw [hx] at hv
  cases hv
  exact ⟨j, q, x, e1, fun h' ch => ⟨e2 h' (ch.get j (by omega) fun q => q), sv.ch ch hc fun _ _ q => q⟩, cv, eqV_sl sv, fun i hi => sv.idlt hi⟩
end Go.Vm
namespace Go.Ln
theorem flat_len : ∀ l : List (List Nat), l.flatten.length ≤ bytesL l
  | [] => Nat.le_refl _
  | t :: l => by have := flat_len l; simp only [bytesL, List.map_cons, List.sum_cons, List.flatten_cons, List.length_append] at this ⊢; omega
theorem bytesL_take {l : List (List Nat)} {k : Nat} (h : k < l.length) : bytesL (l.take (k + 1)) = bytesL (l.take k) + (l[k].length + 1) := by
  rw [List.take_succ_eq_append_getElem h, bytesL_append, bytesL_one]
theorem flat_take {l : List (List Nat)} {k : Nat} (h : k < l.length) : (l.take (k + 1)).flatten = (l.take k).flatten ++ l[k] := by
  rw [List.take_succ_eq_append_getElem h, List.flatten_append, List.flatten_cons, List.flatten_nil, List.append_nil]
theorem flat_take_le (l : List (List Nat)) (k : Nat) : (l.take k).flatten.length ≤ l.flatten.length := by
  have e : l.flatten = (l.take k).flatten ++ (l.drop k).flatten := by rw [← List.flatten_append, List.take_append_drop]
  rw [e, List.length_append]; omega
end Go.Ln
namespace Go.Proofs.Ytgnfkfmhjgbhhaa
open Go Go.Proofs Go.Vm Go.Ln
set_option linter.unusedVariables false
set_option maxRecDepth 100000
set_option linter.unusedSimpArgs false
/-- told the same -/
theorem same_ok {gs : List Ln.Got} {P Q : Pos → Prop} {g : Hp} {va vb : V} (ta : Told P g va gs) (tb : Told Q g vb gs) (hl : gs.length < 1000000000) (hw : ∀ x ∈ gs, x.words.count < 4000000000000000000 ∧ x.words.depth ≤ 9) : TryF15 [va, vb] g = .ok (.bool true) g := by
  suffices hs : Tells Try.prog [.tmp 4] (fun v g' => v = .bool true ∧ g' = g) (Tryd15 (T.set (some vb) (Pos.of 1) (T.set (some va) (Pos.of 0) T.nil)) g) by
    rw [TryF15_eq]
    obtain ⟨r, h', e, rfl, rfl⟩ := hs
    exact e
  have la := ta.len
  have lb := tb.len
  simp (disch := omega) only [seqO_eq, thenO_nor, gtO_some, bndO_ok, get_set_of, cndX_tmp, ifB_false, blkO_eq, Nat.reduceEqDiff, Nat.zero_ne_one, reduceCtorEq, ↓reduceIte, oBin_neq, decide_false, ne_eq, not_true, Tryd15, Tryr15_0, Tryr15_1, Tryr15_3, la, lb]
  refine Oc.then (loop_rule (n := gs.length) (fun m fr g' => ∃ i : Nat, fr.get (Pos.of 0) = some va ∧ fr.get (Pos.of 1) = some vb ∧ fr.get (Pos.of 5) = some (.int .i64 (i : Int)) ∧ i + m = gs.length ∧ g' = g)
    (A := fun fr g' => g' = g) (B := fun _ _ => False) (by rw [lf_eq]; omega) ?_ ?_) ?_ ?_
  · exact ⟨0, by simp only [get_set_of, Nat.zero_ne_one, reduceCtorEq, ↓reduceIte], by simp only [get_set_of, Nat.reduceEqDiff, ↓reduceIte], by simp only [get_set_of, ↓reduceIte]; rfl, by omega, rfl⟩
  · rintro m fr g' ⟨i, f0, f1, f5, hi, rfl⟩
    by_cases hlt : i < gs.length
    · have hlt' : (i : Int) < (gs.length : Int) := by omega
      have hx := List.getElem?_eq_getElem hlt
      obtain ⟨j, q, u, a1, a2, a3, a4⟩ := ta.at hx
      obtain ⟨j', q', u', b1, b2, b3, b4⟩ := tb.at hx
      have hh := hw _ (List.getElem_mem hlt)
      have cmp := words_same_r hh.2 hh.1 a4 b4
      simp (disch := omega) only [seqO_eq, thenO_nor, gtO_some, bndO_ok, get_set_of, cndX_tmp, ifB_true, ifB_false, blkO_eq, blkX_nor, Nat.reduceEqDiff, reduceCtorEq, ↓reduceIte, oBin_add, oBin_neq, oBin_lss, oUn_not, oFieldAddr_eq, bumpH_zero, Bool.not_true, bumpH_zero, decide_true, decide_false, ne_eq, not_true, Tryb15_4, Tryr15_4, Tryr15_6, Tryr15_5, f0, f1, f5, la, hlt', a1, b1, Nat.add_zero, a2, b2, a3, b3, cmp]
      exact ⟨m - 1, by omega, i + 1, by simp only [get_set_of, reduceCtorEq, ↓reduceIte, f0], by simp only [get_set_of, Nat.reduceEqDiff, ↓reduceIte, f1], by simp only [get_set_of, ↓reduceIte]; rfl, by omega, rfl⟩
    · have hlt' : ¬ (i : Int) < (gs.length : Int) := by omega
      simp (disch := omega) only [seqO_eq, thenO_nor, thenO_ex, gtO_some, bndO_ok, get_set_of, cndX_tmp, ifB_false, ↓reduceIte, oBin_lss, decide_false, Tryb15_4, Tryr15_4, f0, f5, la, hlt']
      exact ⟨rfl, rfl⟩
  · rintro fr g' rfl
    simp (disch := omega) only [seqO_eq, thenO_nor, Tryr15_8]
    exact Tells.ret (by simp only [resK, get_set_of, ↓reduceIte, tupR] <;> rfl) ⟨rfl, rfl⟩
  · rintro fr g' q
    exact q.elim
/-- too great to be fed -/
theorem great_ok {c : Nat} {h : Hp} {v1 : V} {ls : List (List Nat)} (s : Ins c h v1 ls) (hc : c ≤ h.next.nat) (hl : ls.length < 9223372036854775808) : ∃ b, TryF11 [v1] h = .ok (.bool b) h ∧ (b = false → bytesL ls ≤ 20000) := by
  suffices hs : Tells Try.prog [.tmp 2] (fun v g => g = h ∧ ∃ b, v = .bool b ∧ (b = false → bytesL ls ≤ 20000)) (Tryd11 (T.set (some v1) (Pos.of 0) T.nil) h) by
    rw [TryF11_eq]
    obtain ⟨r, h', e, rfl, b, rfl, q⟩ := hs
    exact ⟨b, e, q⟩
  simp (disch := omega) only [seqO_eq, thenO_nor, blkO_eq, Tryd11, Tryr11_0, Tryr11_1, Tryr11_2]
  refine Oc.then (loop_rule (n := ls.length) (fun m fr g => ∃ k tot : Nat, fr.get (Pos.of 0) = some v1 ∧ fr.get (Pos.of 3) = some (.int .i64 (tot : Int)) ∧ fr.get (Pos.of 4) = some (.int .i64 (k : Int)) ∧ k + m = ls.length ∧ tot ≤ 50000 ∧ (tot ≤ 20000 → tot = bytesL (ls.take k)) ∧ g = h)
    (A := fun fr g => g = h ∧ ∃ tot : Nat, fr.get (Pos.of 3) = some (.int .i64 (tot : Int)) ∧ (tot ≤ 20000 → tot = bytesL ls)) (B := fun _ _ => False) (by rw [lf_eq]; omega) ?_ ?_) ?_ ?_
  · exact ⟨0, 0, by simp only [get_set_of, reduceCtorEq, ↓reduceIte], by simp only [get_set_of, Nat.reduceEqDiff, ↓reduceIte]; rfl, by simp only [get_set_of, ↓reduceIte]; rfl, by omega, by omega, fun _ => rfl, rfl⟩
  · rintro m fr g ⟨k, tot, f0, f3, f4, hk, ht, hb, rfl⟩
    by_cases hlt : k < ls.length
    · have hlt' : (k : Int) < (ls.length : Int) := by omega
      by_cases h2 : tot ≤ 20000
      · have h2' : (tot : Int) ≤ 20000 := by omega
        obtain ⟨j, q, v, e1, e2, -, -, -⟩ := s.at hc hlt
        obtain ⟨e3, sv⟩ := e2 g (Ch.refl _ _)
        have ek : (tot : Int) + 1 + min (ls[k].length : Int) 20001 = ((tot + 1 + min ls[k].length 20001 : Nat) : Int) := by omega
        simp (disch := omega) only [seqO_eq, thenO_nor, gtO_some, bndO_ok, get_set_of, cndX_tmp, ifB_true, blkO_eq, blkX_nor, Nat.reduceEqDiff, reduceCtorEq, ↓reduceIte, oBin_add, oBin_lss, oBin_leq, oMin_eq, decide_true, Tryb11_3, Tryr11_3, Tryr11_5, Tryr11_4, f0, f3, f4, s.len, hlt', h2', e1, e3, sv.length, ek]
        refine ⟨m - 1, by omega, k + 1, tot + 1 + min ls[k].length 20001, by simp only [get_set_of, reduceCtorEq, ↓reduceIte, f0], by simp only [get_set_of, Nat.reduceEqDiff, ↓reduceIte], by simp only [get_set_of, ↓reduceIte]; rfl, by omega, by omega, fun q => ?_, rfl⟩
        rw [bytesL_take hlt, ← hb h2]
        omega
      · have h2' : ¬ (tot : Int) ≤ 20000 := by omega
        simp (disch := omega) only [seqO_eq, thenO_nor, thenO_ex, gtO_some, bndO_ok, get_set_of, cndX_tmp, ifB_true, ifB_false, ↓reduceIte, oBin_lss, oBin_leq, decide_true, decide_false, Tryb11_3, Tryr11_3, f0, f3, f4, s.len, hlt', h2']
        exact ⟨rfl, rfl, tot, by simp only [get_set_of, Nat.reduceEqDiff, ↓reduceIte, f3], fun q => absurd q h2⟩
    · have hlt' : ¬ (k : Int) < (ls.length : Int) := by omega
      simp (disch := omega) only [seqO_eq, thenO_nor, thenO_ex, gtO_some, bndO_ok, get_set_of, cndX_tmp, ifB_false, ↓reduceIte, oBin_lss, oBin_leq, decide_false, Tryb11_3, Tryr11_3, f0, f3, f4, s.len, hlt']
      rw [List.take_of_length_le (by omega)] at hb
      exact ⟨rfl, rfl, tot, by simp only [get_set_of, Nat.reduceEqDiff, ↓reduceIte, f3], hb⟩
  · rintro fr g ⟨rfl, tot, f3, hb⟩
    by_cases h2 : tot ≤ 20000
    · have h2' : ¬ (tot : Int) > 20000 := by omega
      simp (disch := omega) only [seqO_eq, thenO_nor, gtO_some, bndO_ok, oBin_gtr, decide_false, Tryr11_6, f3, h2']
      exact Tells.ret (by simp only [resK, get_set_of, ↓reduceIte, tupR] <;> rfl) ⟨rfl, false, rfl, fun _ => by rw [← hb h2]; exact h2⟩
    · have h2' : (tot : Int) > 20000 := by omega
      simp (disch := omega) only [seqO_eq, thenO_nor, gtO_some, bndO_ok, oBin_gtr, decide_true, Tryr11_6, f3, h2']
      exact Tells.ret (by simp only [resK, get_set_of, ↓reduceIte, tupR] <;> rfl) ⟨rfl, true, rfl, fun q => by cases q⟩
  · rintro fr g q
    exact q.elim
theorem feeds_ok {most : Int} (hmost : -9223372036854775808 ≤ most ∧ most < 9223372036854775808) {c : Nat} {h : Hp} {v1 : V} {ls : List (List Nat)} (s : Ins c h v1 ls) (hc : c ≤ h.next.nat) (hl : ls.length < 9223372036854775808) (h256 : ∀ l ∈ ls, ∀ x ∈ l, x < 256) : ∃ h', TryF3 [.int .i64 most, v1] h = .ok (.bool true) h' := by
  suffices hs : Tells Try.prog [.tmp 4] (fun v _ => v = .bool true) (Tryd3 (T.set (some v1) (Pos.of 1) (T.set (some (.int .i64 most)) (Pos.of 0) T.nil)) h) by
    rw [TryF3_eq]
    obtain ⟨r, h', e, rfl⟩ := hs
    exact ⟨h', e⟩
  obtain ⟨b, e11, hb⟩ := great_ok s hc hl
  cases b with
  | true =>
    simp (disch := omega) only [seqO_eq, thenO_nor, thenO_ret, gtO_some, bndO_ok, get_set_of, cndX_tmp, ifB_true, Nat.reduceEqDiff, ↓reduceIte, Tryd3, Tryr3_0, Tryr3_1, Tryr3_2, e11, awake_eq]
    exact Tells.ret (by simp only [resK, get_set_of, ↓reduceIte, tupR] <;> rfl) rfl
  | false =>
  replace hb := hb rfl
  have hln := bytesL_len ls
  have hfl := flat_len ls
  obtain ⟨M, hM⟩ : ∃ M, M = max most 1 := ⟨_, rfl⟩
  have hM0 : 0 ≤ M := by omega
  have hM1 : M < 9223372036854775808 := by omega
  obtain ⟨g1, n1, a1, c1, l1⟩ := new_ok most h
  obtain ⟨g2, n2, a2, c2, l2⟩ := rnew_ok most g1
  rw [← hM] at a1 a2
  have k0 : RdOk M 0 {} := RdOk.fresh hM0 hM1 (Nat.zero_le _)
  have c02 : Ch (fun _ => False) h g2 := c1.trans c2 fun _ _ q => q
  simp (disch := omega) only [seqO_eq, thenO_nor, gtO_some, bndO_ok, get_set_of, cndX_tmp, ifB_false, blkO_eq, Nat.reduceEqDiff, Nat.zero_ne_one, reduceCtorEq, ↓reduceIte, Tryd3, Tryr3_0, Tryr3_1, Tryr3_3, Tryr3_4, Tryr3_6, e11, n1, n2, nilcmp]
  refine Oc.then (loop_rule (n := ls.length) (fun m fr g => ∃ (k : Nat) (vt vl vn vq : V) (x : Rr) (wt wl wq : V), fr.get (Pos.of 1) = some v1 ∧ fr.get (Pos.of 5) = some (.ptr h.next 0) ∧ fr.get (Pos.of 6) = some (.ptr g1.next 0) ∧ fr.get (Pos.of 7) = some (.int .i64 (k : Int)) ∧ k + m = ls.length ∧
      RdAt M g h.next (feedsM M {} (ls.take k).flatten).1 vt vl vn vq ∧ RrAt M g g1.next x wt wl wq ∧ RrRel (feedsM M {} (ls.take k).flatten).1 x ∧ (∀ j, RdF h.next vt vl vn vq j → h.next.nat ≤ j.nat ∧ ¬ RrF g1.next wt wl wq j) ∧ (∀ j, RrF g1.next wt wl wq j → h.next.nat ≤ j.nat) ∧ Ch (fun _ => False) h g)
    (A := fun fr g => True) (B := fun _ _ => False) (by rw [lf_eq]; omega) ?_ ?_) ?_ ?_
  · refine ⟨0, .nils, .nils, .nils, .nils, {}, .nils, .nils, .nils, by simp only [get_set_of, Nat.reduceEqDiff, ↓reduceIte], by simp only [get_set_of, Nat.reduceEqDiff, ↓reduceIte], by simp only [get_set_of, Nat.reduceEqDiff, ↓reduceIte], by simp only [get_set_of, ↓reduceIte]; rfl, by omega, a1.ch c2 fun _ _ q => q, a2, ⟨rfl, rfl, rfl, rfl, fun q => (by cases q), fun q => (by cases q), rfl, rfl, rfl⟩, fun j q => ?_, fun j q => ?_, c02⟩
    · have h1 := congrArg Pos.nat (RdF0 q)
      exact ⟨by omega, fun q' => by have := congrArg Pos.nat (RrF0 q'); omega⟩
    · have := congrArg Pos.nat (RrF0 q); omega
  · rintro m fr g ⟨k, vt, vl, vn, vq, x, wt, wl, wq, f1, f5, f6, f7, hk, a, b, rl, dA, dB, ch⟩
    by_cases hlt : k < ls.length
    · have hlt' : (k : Int) < (ls.length : Int) := by omega
      obtain ⟨j, q, v, e1, e2, cv, ev, iv⟩ := s.at hc hlt
      obtain ⟨e3, sv⟩ := e2 g ch
      have hk256 := h256 _ (List.getElem_mem hlt)
      have hp256 : ∀ y ∈ (ls.take k).flatten, y < 256 := fun y hy => by
        obtain ⟨l, hl1, hl2⟩ := List.mem_flatten.1 hy
        exact h256 l (List.mem_of_mem_take hl1) y hl2
      have kk := k0.feedsM hM0 (b := (ls.take k).flatten) hp256
      have ri := (RdInv.fresh 0 false).feedsM (most := M) (b := (ls.take k).flatten)
      have hfk := flat_take_le ls (k + 1)
      have ef := flat_take hlt
      rw [ef, List.length_append] at hfk
      have ngn := ch.next
      obtain ⟨r, hr⟩ : ∃ r, r = (feedsM M {} (ls.take k).flatten).1 := ⟨_, rfl⟩
      have er : (feedsM M {} (ls.take (k + 1)).flatten).1 = (feedsM M r ls[k]).1 := by rw [ef, feedsM_append, hr]
      replace ri : RdInv (feedsM M {} (ls.take k).flatten).1 := ri
      rw [← hr] at a rl kk ri
      obtain ⟨x5, g3, vt', vl', vn', vq', e16, a3, p3, t3⟩ := feed_b hM0 a kk sv (by omega) cv (fun j' hj' q' => by have := iv j' hj'; have := (dA j' q').1; omega) (by omega) hk256
      have b3 : RrAt M g3 g1.next x wt wl wq := b.ch p3.ch fun j' q1 q2 => (dA j' q2).2 q1
      have ch3 : Ch (fun _ => False) h g3 := ch.trans p3.ch fun j' hj' q' => absurd (dA j' q').1 (by omega)
      obtain ⟨e4, sv3⟩ := e2 g3 ch3
      obtain ⟨x6, g4, x', wt', wl', wq', e17, b4, rl4, p4, t4⟩ := rfeed_ok hM0 b3 rl ri kk (by omega) sv3 (fun j' hj' q' => by have := iv j' hj'; have := dB j' q'; omega) (by have := ch3.next; omega) hk256
      have n3 := p3.ch.next
      have dA3 : ∀ j, RdF h.next vt' vl' vn' vq' j → h.next.nat ≤ j.nat ∧ ¬ RrF g1.next wt wl wq j := fun j' q' => by
        rcases p3.sub j' q' with q1 | q1
        · exact dA j' q1
        · exact ⟨by omega, fun q2 => by have := b.idlt q2; omega⟩
      have a4 : RdAt M g4 h.next (feedsM M r ls[k]).1 vt' vl' vn' vq' := a3.ch p4.ch fun j' q1 q2 => (dA3 j' q1).2 q2
      have ch4 : Ch (fun _ => False) h g4 := ch3.trans p4.ch fun j' hj' q' => absurd (dB j' q') (by omega)
      have t3' : Told (fun j => g.next.nat ≤ j.nat) g4 x5 (feedsM M r ls[k]).2 := t3.ch p4.ch fun j' hj' q' => ⟨q'.1, fun q2 => by have := b.idlt q2; have := q'.1; omega⟩
      have hgot := feedsM_got hM0 kk hk256
      have hgl := feedsM_len M ls[k] r
      have e15 := same_ok t3' t4 (by omega) (fun y hy => by have := hgot y hy; omega)
      have ck : ∀ K, chk (fun h => oLoad1 (.ptr j q) h) v K 1 [g] = K := fun K => chk_one e3 ev
      simp (disch := omega) only [seqO_eq, thenO_nor, gtO_some, bndO_ok, get_set_of, cndX_tmp, ifB_true, ifB_false, blkO_eq, blkX_nor, Nat.reduceEqDiff, ↓reduceIte, oBin_add, oBin_lss, oUn_not, bumpH_zero, Bool.not_true, bumpH_zero, decide_true, Tryb3_7, Tryr3_7, Tryr3_9, Tryr3_8, f1, f5, f6, f7, s.len, hlt', e1, e3, e16, e4, ck, e17, e15]
      refine ⟨m - 1, by omega, k + 1, vt', vl', vn', vq', x', wt', wl', wq', by simp only [get_set_of, Nat.reduceEqDiff, ↓reduceIte, f1], by simp only [get_set_of, Nat.reduceEqDiff, ↓reduceIte, f5], by simp only [get_set_of, Nat.reduceEqDiff, ↓reduceIte, f6], by simp only [get_set_of, ↓reduceIte]; rfl, by omega, by rw [er]; exact a4, b4, by rw [er]; exact rl4, fun j' q' => ⟨(dA3 j' q').1, fun q2 => ?_⟩, fun j' q' => ?_, ch4⟩
      · rcases p4.sub j' q2 with q3 | q3
        · exact (dA3 j' q').2 q3
        · have := a3.idlt q'; omega
      · rcases p4.sub j' q' with q1 | q1
        · exact dB j' q1
        · have := ch3.next; omega
    · have hlt' : ¬ (k : Int) < (ls.length : Int) := by omega
      simp (disch := omega) only [seqO_eq, thenO_nor, thenO_ex, gtO_some, bndO_ok, get_set_of, cndX_tmp, ifB_false, ↓reduceIte, oBin_lss, decide_false, Tryb3_7, Tryr3_7, f1, f7, s.len, hlt']
      exact ⟨rfl, trivial⟩
  · rintro fr g -
    simp (disch := omega) only [seqO_eq, thenO_nor, bndO_ok, Tryr3_11, awake_eq]
    exact Tells.ret (by simp only [resK, get_set_of, ↓reduceIte, tupR] <;> rfl) rfl
  · rintro fr g q
    exact q.elim
end Go.Proofs.Ytgnfkfmhjgbhhaa
