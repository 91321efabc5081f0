/- Part of the value machine, or of a walk by it: lemmas that the claim's last text uses. No conditions. -/
import Derived.Test.YtmlbnkojodkieaaChecked
import Derived.KernelRfl
import Derived.Test.YtmlbnkojodkieaaDiffA
import Derived.Test.YtmlbnkojodkieaaVmC
import Derived.Shelf.Spec.SlicesInsertGrow
set_option linter.unusedVariables false
set_option linter.unusedSimpArgs false
set_option linter.unnecessarySimpa false
noncomputable section
namespace Go.Proofs.Ytmlbnkojodkieaa
open Go Go.Proofs Go.Vm
set_option linter.unusedVariables false
set_option maxRecDepth 100000
set_option linter.unusedSimpArgs false
def idxI (l : List Int) (x : Int) : Int := match l.idxOf? x with | some i => (i : Int) | none => -1
theorem idxOf?_at {l : List Int} {k : Nat} (hk : k < l.length) (hn : l[k] ∉ l.take k) : l.idxOf? l[k] = some k := by
  have h := idxOf?_mid (l.take k) l[k] (l.drop (k + 1)) hn
  rw [← List.drop_eq_getElem_cons hk, List.take_append_drop] at h
  rw [h, List.length_take]
  congr 1; omega
theorem idxI_at {l : List Int} {k : Nat} (hk : k < l.length) (hn : l[k] ∉ l.take k) : idxI l l[k] = (k : Int) := by rw [idxI, idxOf?_at hk hn]
theorem idxI_none {l : List Int} {x : Int} (h : x ∉ l) : idxI l x = -1 := by rw [idxI, (idxOf?_none l x).2 h]
theorem idxI_lt {l : List Int} {k : Nat} (hk : k < l.length) (hm : l[k] ∈ l.take k) : idxI l l[k] ≠ (k : Int) := by
  have hs : ∀ (l : List Int) (x : Int), x ∈ l → ∃ i, l.idxOf? x = some i ∧ i < l.length := by
    intro l x
    induction l with
    | nil => intro h; cases h
    | cons a l ih =>
      intro h
      rw [List.idxOf?_cons]
      by_cases e : a = x
      · exact ⟨0, by simp [e], by simp⟩
      · rcases List.mem_cons.1 h with h | h
        · exact absurd h.symm e
        · obtain ⟨i, h1, h2⟩ := ih h
          exact ⟨i + 1, by simp [e, h1], by simpa using h2⟩
  have happ : ∀ (a b : List Int) (x : Int) i, a.idxOf? x = some i → (a ++ b).idxOf? x = some i := by
    intro a b x
    induction a with
    | nil => intro i h; cases h
    | cons c a ih =>
      intro i h
      rw [List.cons_append, List.idxOf?_cons]
      rw [List.idxOf?_cons] at h
      by_cases e : c = x
      · simpa [e] using h
      · simp only [beq_iff_eq, e, if_false, Option.map_eq_some_iff] at h ⊢
        obtain ⟨j, h1, h2⟩ := h
        exact ⟨j, ih j h1, h2⟩
  obtain ⟨i, h1, h2⟩ := hs _ _ hm
  have h3 := happ (l.take k) (l.drop k) _ i h1
  rw [List.take_append_drop] at h3
  rw [idxI, h3]
  rw [List.length_take] at h2
  simp only
  omega
theorem take_notin {l : List Int} {k : Nat} {x : Int} (hk : k < l.length) (hn : x ∉ l.take k) (hx : l[k] ≠ x) : x ∉ l.take (k + 1) := by
  rw [List.take_add_one, List.getElem?_eq_getElem hk]
  intro h
  rcases List.mem_append.1 h with h | h
  · exact hn h
  · simp at h; exact hx h.symm
theorem place_ok {b : Nat} {h : Hp} {v : V} {l : List Int} (s : Sl b h 1 v l.length (ints l)) (hl : l.length < 1000) (x : Int) : TryF18 [v, .int .i64 x] h = .ok (.int .i64 (idxI l x)) h := by
  rw [TryF18_eq]
  have : Tells Try.prog [.tmp 4] (fun r h' => r = .int .i64 (idxI l x) ∧ h' = h) (Tryd18 (T.set (some (.int .i64 x)) (Pos.of 1) (T.set (some v) (Pos.of 0) T.nil)) h) := by
    simp (disch := omega) only [seqO_eq, thenO_nor, thenO_ret, thenO_ex, gtO_some, bndO_ok, get_set_of, cndX_tmp, ifB_true, ifB_false, ifB_pos, ifB_neg, blkO_eq, blkX_nor, blkX_ret, blkX_ex, Nat.reduceEqDiff, Nat.zero_ne_one, Nat.one_ne_zero, reduceCtorEq, ↓reduceIte, oBin_add, oBin_sub, oBin_eql, oBin_neq, oBin_lss, oBin_leq, oBin_gtr, oBin_geq, oUn_not, oPick_true, oPick_false, oExtract_0, oExtract_1, oExtract_2, oMin_eq, oMax_eq, oFieldAddr_eq, oConvInt_i64, oBin_rem, oBuildSlice_11, oBinAgg_eql2, oBinAgg_neq2, oBuildSlice_1, oBuild_2, oBuildSlice_2, chk_zero, chk_nil, bumpH_zero, alcO_some, Bool.not_true, Bool.not_false, Option.getD_some, Option.getD_none, Option.isSome_some, Option.isSome_none, Tryd18, Tryr18_0, Tryr18_1]
    refine Oc.then (loop_rule (n := l.length) (fun m fr h' => ∃ k, k + m = l.length ∧ fr.get (Pos.of 0) = some v ∧ fr.get (Pos.of 1) = some (.int .i64 x) ∧ fr.get (Pos.of 5) = some (.int .i64 (k : Int)) ∧ h' = h ∧ x ∉ l.take k)
      (A := fun fr h' => h' = h ∧ x ∉ l) (B := fun fr h' => fr.get (Pos.of 4) = some (.int .i64 (idxI l x)) ∧ h' = h) (by rw [lf_eq]; omega) ?_ ?_) ?_ ?_
    · exact ⟨0, by omega, by simp only [seqO_eq, thenO_nor, thenO_ret, thenO_ex, gtO_some, bndO_ok, get_set_of, cndX_tmp, ifB_true, ifB_false, ifB_pos, ifB_neg, blkO_eq, blkX_nor, blkX_ret, blkX_ex, Nat.reduceEqDiff, Nat.zero_ne_one, Nat.one_ne_zero, reduceCtorEq, ↓reduceIte, oBin_add, oBin_sub, oBin_eql, oBin_neq, oBin_lss, oBin_leq, oBin_gtr, oBin_geq, oUn_not, oPick_true, oPick_false, oExtract_0, oExtract_1, oExtract_2, oMin_eq, oMax_eq, oFieldAddr_eq, oConvInt_i64, oBin_rem, oBuildSlice_11, oBinAgg_eql2, oBinAgg_neq2, oBuildSlice_1, oBuild_2, oBuildSlice_2, chk_zero, chk_nil, bumpH_zero, alcO_some, Bool.not_true, Bool.not_false, Option.getD_some, Option.getD_none, Option.isSome_some, Option.isSome_none], by simp only [seqO_eq, thenO_nor, thenO_ret, thenO_ex, gtO_some, bndO_ok, get_set_of, cndX_tmp, ifB_true, ifB_false, ifB_pos, ifB_neg, blkO_eq, blkX_nor, blkX_ret, blkX_ex, Nat.reduceEqDiff, Nat.zero_ne_one, Nat.one_ne_zero, reduceCtorEq, ↓reduceIte, oBin_add, oBin_sub, oBin_eql, oBin_neq, oBin_lss, oBin_leq, oBin_gtr, oBin_geq, oUn_not, oPick_true, oPick_false, oExtract_0, oExtract_1, oExtract_2, oMin_eq, oMax_eq, oFieldAddr_eq, oConvInt_i64, oBin_rem, oBuildSlice_11, oBinAgg_eql2, oBinAgg_neq2, oBuildSlice_1, oBuild_2, oBuildSlice_2, chk_zero, chk_nil, bumpH_zero, alcO_some, Bool.not_true, Bool.not_false, Option.getD_some, Option.getD_none, Option.isSome_some, Option.isSome_none], by simp only [seqO_eq, thenO_nor, thenO_ret, thenO_ex, gtO_some, bndO_ok, get_set_of, cndX_tmp, ifB_true, ifB_false, ifB_pos, ifB_neg, blkO_eq, blkX_nor, blkX_ret, blkX_ex, Nat.reduceEqDiff, Nat.zero_ne_one, Nat.one_ne_zero, reduceCtorEq, ↓reduceIte, oBin_add, oBin_sub, oBin_eql, oBin_neq, oBin_lss, oBin_leq, oBin_gtr, oBin_geq, oUn_not, oPick_true, oPick_false, oExtract_0, oExtract_1, oExtract_2, oMin_eq, oMax_eq, oFieldAddr_eq, oConvInt_i64, oBin_rem, oBuildSlice_11, oBinAgg_eql2, oBinAgg_neq2, oBuildSlice_1, oBuild_2, oBuildSlice_2, chk_zero, chk_nil, bumpH_zero, alcO_some, Bool.not_true, Bool.not_false, Option.getD_some, Option.getD_none, Option.isSome_some, Option.isSome_none]; rfl, rfl, by simp⟩
    · rintro m fr h' ⟨k, hkm, f0, f1, f5, rfl, hn⟩
      by_cases hk : k < l.length
      · obtain ⟨i, q, e1, hib, e2⟩ := Sl.ints s hk
        have e2' := e2 h' rfl
        by_cases hx : l[k] = x
        · simp (disch := omega) only [seqO_eq, thenO_nor, thenO_ret, thenO_ex, gtO_some, bndO_ok, get_set_of, cndX_tmp, ifB_true, ifB_false, ifB_pos, ifB_neg, blkO_eq, blkX_nor, blkX_ret, blkX_ex, Nat.reduceEqDiff, Nat.zero_ne_one, Nat.one_ne_zero, reduceCtorEq, ↓reduceIte, oBin_add, oBin_sub, oBin_eql, oBin_neq, oBin_lss, oBin_leq, oBin_gtr, oBin_geq, oUn_not, oPick_true, oPick_false, oExtract_0, oExtract_1, oExtract_2, oMin_eq, oMax_eq, oFieldAddr_eq, oConvInt_i64, oBin_rem, oBuildSlice_11, oBinAgg_eql2, oBinAgg_neq2, oBuildSlice_1, oBuild_2, oBuildSlice_2, chk_zero, chk_nil, bumpH_zero, alcO_some, Bool.not_true, Bool.not_false, Option.getD_some, Option.getD_none, Option.isSome_some, Option.isSome_none, Tryb18_2, Tryr18_2, f5, f0, s.length, Tryr18_4, e1, e2', f1, Tryr18_5]
          refine ⟨?_, rfl⟩
          subst hx
          simp only [seqO_eq, thenO_nor, thenO_ret, thenO_ex, gtO_some, bndO_ok, get_set_of, cndX_tmp, ifB_true, ifB_false, ifB_pos, ifB_neg, blkO_eq, blkX_nor, blkX_ret, blkX_ex, Nat.reduceEqDiff, Nat.zero_ne_one, Nat.one_ne_zero, reduceCtorEq, ↓reduceIte, oBin_add, oBin_sub, oBin_eql, oBin_neq, oBin_lss, oBin_leq, oBin_gtr, oBin_geq, oUn_not, oPick_true, oPick_false, oExtract_0, oExtract_1, oExtract_2, oMin_eq, oMax_eq, oFieldAddr_eq, oConvInt_i64, oBin_rem, oBuildSlice_11, oBinAgg_eql2, oBinAgg_neq2, oBuildSlice_1, oBuild_2, oBuildSlice_2, chk_zero, chk_nil, bumpH_zero, alcO_some, Bool.not_true, Bool.not_false, Option.getD_some, Option.getD_none, Option.isSome_some, Option.isSome_none, idxI_at hk hn]
        · simp (disch := omega) only [seqO_eq, thenO_nor, thenO_ret, thenO_ex, gtO_some, bndO_ok, get_set_of, cndX_tmp, ifB_true, ifB_false, ifB_pos, ifB_neg, blkO_eq, blkX_nor, blkX_ret, blkX_ex, Nat.reduceEqDiff, Nat.zero_ne_one, Nat.one_ne_zero, reduceCtorEq, ↓reduceIte, oBin_add, oBin_sub, oBin_eql, oBin_neq, oBin_lss, oBin_leq, oBin_gtr, oBin_geq, oUn_not, oPick_true, oPick_false, oExtract_0, oExtract_1, oExtract_2, oMin_eq, oMax_eq, oFieldAddr_eq, oConvInt_i64, oBin_rem, oBuildSlice_11, oBinAgg_eql2, oBinAgg_neq2, oBuildSlice_1, oBuild_2, oBuildSlice_2, chk_zero, chk_nil, bumpH_zero, alcO_some, Bool.not_true, Bool.not_false, Option.getD_some, Option.getD_none, Option.isSome_some, Option.isSome_none, Tryb18_2, Tryr18_2, f5, f0, s.length, Tryr18_4, e1, e2', f1, Tryr18_3]
          refine ⟨m - 1, by omega, k + 1, by omega, ?_, ?_, ?_, rfl, take_notin hk hn hx⟩
          all_goals first | (simp only [seqO_eq, thenO_nor, thenO_ret, thenO_ex, gtO_some, bndO_ok, get_set_of, cndX_tmp, ifB_true, ifB_false, ifB_pos, ifB_neg, blkO_eq, blkX_nor, blkX_ret, blkX_ex, Nat.reduceEqDiff, Nat.zero_ne_one, Nat.one_ne_zero, reduceCtorEq, ↓reduceIte, oBin_add, oBin_sub, oBin_eql, oBin_neq, oBin_lss, oBin_leq, oBin_gtr, oBin_geq, oUn_not, oPick_true, oPick_false, oExtract_0, oExtract_1, oExtract_2, oMin_eq, oMax_eq, oFieldAddr_eq, oConvInt_i64, oBin_rem, oBuildSlice_11, oBinAgg_eql2, oBinAgg_neq2, oBuildSlice_1, oBuild_2, oBuildSlice_2, chk_zero, chk_nil, bumpH_zero, alcO_some, Bool.not_true, Bool.not_false, Option.getD_some, Option.getD_none, Option.isSome_some, Option.isSome_none, f0, f1]; done) | (simp only [seqO_eq, thenO_nor, thenO_ret, thenO_ex, gtO_some, bndO_ok, get_set_of, cndX_tmp, ifB_true, ifB_false, ifB_pos, ifB_neg, blkO_eq, blkX_nor, blkX_ret, blkX_ex, Nat.reduceEqDiff, Nat.zero_ne_one, Nat.one_ne_zero, reduceCtorEq, ↓reduceIte, oBin_add, oBin_sub, oBin_eql, oBin_neq, oBin_lss, oBin_leq, oBin_gtr, oBin_geq, oUn_not, oPick_true, oPick_false, oExtract_0, oExtract_1, oExtract_2, oMin_eq, oMax_eq, oFieldAddr_eq, oConvInt_i64, oBin_rem, oBuildSlice_11, oBinAgg_eql2, oBinAgg_neq2, oBuildSlice_1, oBuild_2, oBuildSlice_2, chk_zero, chk_nil, bumpH_zero, alcO_some, Bool.not_true, Bool.not_false, Option.getD_some, Option.getD_none, Option.isSome_some, Option.isSome_none]; rfl)
      · have hk' : k = l.length := by omega
        subst hk'
        simp (disch := omega) only [seqO_eq, thenO_nor, thenO_ret, thenO_ex, gtO_some, bndO_ok, get_set_of, cndX_tmp, ifB_true, ifB_false, ifB_pos, ifB_neg, blkO_eq, blkX_nor, blkX_ret, blkX_ex, Nat.reduceEqDiff, Nat.zero_ne_one, Nat.one_ne_zero, reduceCtorEq, ↓reduceIte, oBin_add, oBin_sub, oBin_eql, oBin_neq, oBin_lss, oBin_leq, oBin_gtr, oBin_geq, oUn_not, oPick_true, oPick_false, oExtract_0, oExtract_1, oExtract_2, oMin_eq, oMax_eq, oFieldAddr_eq, oConvInt_i64, oBin_rem, oBuildSlice_11, oBinAgg_eql2, oBinAgg_neq2, oBuildSlice_1, oBuild_2, oBuildSlice_2, chk_zero, chk_nil, bumpH_zero, alcO_some, Bool.not_true, Bool.not_false, Option.getD_some, Option.getD_none, Option.isSome_some, Option.isSome_none, Tryb18_2, Tryr18_2, f5, f0, s.length]
        rw [List.take_length] at hn
        exact ⟨rfl, rfl, hn⟩
    · rintro fr h' ⟨rfl, hn⟩
      simp only [seqO_eq, thenO_nor, thenO_ret, thenO_ex, gtO_some, bndO_ok, get_set_of, cndX_tmp, ifB_true, ifB_false, ifB_pos, ifB_neg, blkO_eq, blkX_nor, blkX_ret, blkX_ex, Nat.reduceEqDiff, Nat.zero_ne_one, Nat.one_ne_zero, reduceCtorEq, ↓reduceIte, oBin_add, oBin_sub, oBin_eql, oBin_neq, oBin_lss, oBin_leq, oBin_gtr, oBin_geq, oUn_not, oPick_true, oPick_false, oExtract_0, oExtract_1, oExtract_2, oMin_eq, oMax_eq, oFieldAddr_eq, oConvInt_i64, oBin_rem, oBuildSlice_11, oBinAgg_eql2, oBinAgg_neq2, oBuildSlice_1, oBuild_2, oBuildSlice_2, chk_zero, chk_nil, bumpH_zero, alcO_some, Bool.not_true, Bool.not_false, Option.getD_some, Option.getD_none, Option.isSome_some, Option.isSome_none, Tryr18_6]
      exact Tells.ret (by simp only [resK, get_set_of, seqO_eq, thenO_nor, thenO_ret, thenO_ex, gtO_some, bndO_ok, get_set_of, cndX_tmp, ifB_true, ifB_false, ifB_pos, ifB_neg, blkO_eq, blkX_nor, blkX_ret, blkX_ex, Nat.reduceEqDiff, Nat.zero_ne_one, Nat.one_ne_zero, reduceCtorEq, ↓reduceIte, oBin_add, oBin_sub, oBin_eql, oBin_neq, oBin_lss, oBin_leq, oBin_gtr, oBin_geq, oUn_not, oPick_true, oPick_false, oExtract_0, oExtract_1, oExtract_2, oMin_eq, oMax_eq, oFieldAddr_eq, oConvInt_i64, oBin_rem, oBuildSlice_11, oBinAgg_eql2, oBinAgg_neq2, oBuildSlice_1, oBuild_2, oBuildSlice_2, chk_zero, chk_nil, bumpH_zero, alcO_some, Bool.not_true, Bool.not_false, Option.getD_some, Option.getD_none, Option.isSome_some, Option.isSome_none, tupR]; rfl) ⟨by rw [idxI_none hn], rfl⟩
    · rintro fr h' ⟨f4, rfl⟩
      exact Tells.ret (by simp only [resK, f4, tupR]; first | done | rfl) ⟨rfl, rfl⟩
  obtain ⟨r, h', e, rfl, rfl⟩ := this
  exact e
theorem single_ok {b : Nat} {h : Hp} {v : V} {l : List Int} (s : Sl b h 1 v l.length (ints l)) (hl : l.length < 1000) : TryF17 [v] h = .ok (.bool (decide l.Nodup)) h := by
  rw [TryF17_eq]
  have : Tells Try.prog [.tmp 2] (fun r h' => r = .bool (decide l.Nodup) ∧ h' = h) (Tryd17 (T.set (some v) (Pos.of 0) T.nil) h) := by
    simp (disch := omega) only [seqO_eq, thenO_nor, thenO_ret, thenO_ex, gtO_some, bndO_ok, get_set_of, cndX_tmp, ifB_true, ifB_false, ifB_pos, ifB_neg, blkO_eq, blkX_nor, blkX_ret, blkX_ex, Nat.reduceEqDiff, Nat.zero_ne_one, Nat.one_ne_zero, reduceCtorEq, ↓reduceIte, oBin_add, oBin_sub, oBin_eql, oBin_neq, oBin_lss, oBin_leq, oBin_gtr, oBin_geq, oUn_not, oPick_true, oPick_false, oExtract_0, oExtract_1, oExtract_2, oMin_eq, oMax_eq, oFieldAddr_eq, oConvInt_i64, oBin_rem, oBuildSlice_11, oBinAgg_eql2, oBinAgg_neq2, oBuildSlice_1, oBuild_2, oBuildSlice_2, chk_zero, chk_nil, bumpH_zero, alcO_some, Bool.not_true, Bool.not_false, Option.getD_some, Option.getD_none, Option.isSome_some, Option.isSome_none, Tryd17, Tryr17_0, Tryr17_1]
    refine Oc.then (loop_rule (n := l.length) (fun m fr h' => ∃ k, k + m = l.length ∧ fr.get (Pos.of 0) = some v ∧ fr.get (Pos.of 3) = some (.int .i64 (k : Int)) ∧ h' = h ∧ (l.take k).Nodup)
      (A := fun fr h' => h' = h ∧ l.Nodup) (B := fun fr h' => fr.get (Pos.of 2) = some (.bool false) ∧ h' = h ∧ ¬ l.Nodup) (by rw [lf_eq]; omega) ?_ ?_) ?_ ?_
    · exact ⟨0, by omega, by simp only [seqO_eq, thenO_nor, thenO_ret, thenO_ex, gtO_some, bndO_ok, get_set_of, cndX_tmp, ifB_true, ifB_false, ifB_pos, ifB_neg, blkO_eq, blkX_nor, blkX_ret, blkX_ex, Nat.reduceEqDiff, Nat.zero_ne_one, Nat.one_ne_zero, reduceCtorEq, ↓reduceIte, oBin_add, oBin_sub, oBin_eql, oBin_neq, oBin_lss, oBin_leq, oBin_gtr, oBin_geq, oUn_not, oPick_true, oPick_false, oExtract_0, oExtract_1, oExtract_2, oMin_eq, oMax_eq, oFieldAddr_eq, oConvInt_i64, oBin_rem, oBuildSlice_11, oBinAgg_eql2, oBinAgg_neq2, oBuildSlice_1, oBuild_2, oBuildSlice_2, chk_zero, chk_nil, bumpH_zero, alcO_some, Bool.not_true, Bool.not_false, Option.getD_some, Option.getD_none, Option.isSome_some, Option.isSome_none], by simp only [seqO_eq, thenO_nor, thenO_ret, thenO_ex, gtO_some, bndO_ok, get_set_of, cndX_tmp, ifB_true, ifB_false, ifB_pos, ifB_neg, blkO_eq, blkX_nor, blkX_ret, blkX_ex, Nat.reduceEqDiff, Nat.zero_ne_one, Nat.one_ne_zero, reduceCtorEq, ↓reduceIte, oBin_add, oBin_sub, oBin_eql, oBin_neq, oBin_lss, oBin_leq, oBin_gtr, oBin_geq, oUn_not, oPick_true, oPick_false, oExtract_0, oExtract_1, oExtract_2, oMin_eq, oMax_eq, oFieldAddr_eq, oConvInt_i64, oBin_rem, oBuildSlice_11, oBinAgg_eql2, oBinAgg_neq2, oBuildSlice_1, oBuild_2, oBuildSlice_2, chk_zero, chk_nil, bumpH_zero, alcO_some, Bool.not_true, Bool.not_false, Option.getD_some, Option.getD_none, Option.isSome_some, Option.isSome_none]; rfl, rfl, by simp⟩
    · rintro m fr h' ⟨k, hkm, f0, f3, rfl, hn⟩
      by_cases hk : k < l.length
      · obtain ⟨i, q, e1, hib, e2⟩ := Sl.ints s hk
        have e2' := e2 h' rfl
        have pl := place_ok s hl l[k]
        have htake : l.take (k + 1) = l.take k ++ [l[k]] := by rw [List.take_add_one, List.getElem?_eq_getElem hk]; rfl
        by_cases hm : l[k] ∈ l.take k
        · have hne := idxI_lt hk hm
          simp (disch := omega) only [seqO_eq, thenO_nor, thenO_ret, thenO_ex, gtO_some, bndO_ok, get_set_of, cndX_tmp, ifB_true, ifB_false, ifB_pos, ifB_neg, blkO_eq, blkX_nor, blkX_ret, blkX_ex, Nat.reduceEqDiff, Nat.zero_ne_one, Nat.one_ne_zero, reduceCtorEq, ↓reduceIte, oBin_add, oBin_sub, oBin_eql, oBin_neq, oBin_lss, oBin_leq, oBin_gtr, oBin_geq, oUn_not, oPick_true, oPick_false, oExtract_0, oExtract_1, oExtract_2, oMin_eq, oMax_eq, oFieldAddr_eq, oConvInt_i64, oBin_rem, oBuildSlice_11, oBinAgg_eql2, oBinAgg_neq2, oBuildSlice_1, oBuild_2, oBuildSlice_2, chk_zero, chk_nil, bumpH_zero, alcO_some, Bool.not_true, Bool.not_false, Option.getD_some, Option.getD_none, Option.isSome_some, Option.isSome_none, Tryb17_2, Tryr17_2, f3, f0, s.length, Tryr17_4, e1, e2', pl, Tryr17_5]
          refine ⟨by simp only [seqO_eq, thenO_nor, thenO_ret, thenO_ex, gtO_some, bndO_ok, get_set_of, cndX_tmp, ifB_true, ifB_false, ifB_pos, ifB_neg, blkO_eq, blkX_nor, blkX_ret, blkX_ex, Nat.reduceEqDiff, Nat.zero_ne_one, Nat.one_ne_zero, reduceCtorEq, ↓reduceIte, oBin_add, oBin_sub, oBin_eql, oBin_neq, oBin_lss, oBin_leq, oBin_gtr, oBin_geq, oUn_not, oPick_true, oPick_false, oExtract_0, oExtract_1, oExtract_2, oMin_eq, oMax_eq, oFieldAddr_eq, oConvInt_i64, oBin_rem, oBuildSlice_11, oBinAgg_eql2, oBinAgg_neq2, oBuildSlice_1, oBuild_2, oBuildSlice_2, chk_zero, chk_nil, bumpH_zero, alcO_some, Bool.not_true, Bool.not_false, Option.getD_some, Option.getD_none, Option.isSome_some, Option.isSome_none], rfl, fun hnd => ?_⟩
          have : (l.take k ++ [l[k]]).Nodup := by rw [← htake]; exact hnd.sublist (List.take_sublist _ _)
          rw [List.nodup_append] at this
          exact this.2.2 _ hm _ (by simp) rfl
        · have hne := idxI_at hk hm
          simp (disch := omega) only [seqO_eq, thenO_nor, thenO_ret, thenO_ex, gtO_some, bndO_ok, get_set_of, cndX_tmp, ifB_true, ifB_false, ifB_pos, ifB_neg, blkO_eq, blkX_nor, blkX_ret, blkX_ex, Nat.reduceEqDiff, Nat.zero_ne_one, Nat.one_ne_zero, reduceCtorEq, ↓reduceIte, oBin_add, oBin_sub, oBin_eql, oBin_neq, oBin_lss, oBin_leq, oBin_gtr, oBin_geq, oUn_not, oPick_true, oPick_false, oExtract_0, oExtract_1, oExtract_2, oMin_eq, oMax_eq, oFieldAddr_eq, oConvInt_i64, oBin_rem, oBuildSlice_11, oBinAgg_eql2, oBinAgg_neq2, oBuildSlice_1, oBuild_2, oBuildSlice_2, chk_zero, chk_nil, bumpH_zero, alcO_some, Bool.not_true, Bool.not_false, Option.getD_some, Option.getD_none, Option.isSome_some, Option.isSome_none, Tryb17_2, Tryr17_2, f3, f0, s.length, Tryr17_4, e1, e2', pl, Tryr17_3]
          refine ⟨m - 1, by omega, k + 1, by omega, ?_, ?_, rfl, ?_⟩
          all_goals first | (simp only [seqO_eq, thenO_nor, thenO_ret, thenO_ex, gtO_some, bndO_ok, get_set_of, cndX_tmp, ifB_true, ifB_false, ifB_pos, ifB_neg, blkO_eq, blkX_nor, blkX_ret, blkX_ex, Nat.reduceEqDiff, Nat.zero_ne_one, Nat.one_ne_zero, reduceCtorEq, ↓reduceIte, oBin_add, oBin_sub, oBin_eql, oBin_neq, oBin_lss, oBin_leq, oBin_gtr, oBin_geq, oUn_not, oPick_true, oPick_false, oExtract_0, oExtract_1, oExtract_2, oMin_eq, oMax_eq, oFieldAddr_eq, oConvInt_i64, oBin_rem, oBuildSlice_11, oBinAgg_eql2, oBinAgg_neq2, oBuildSlice_1, oBuild_2, oBuildSlice_2, chk_zero, chk_nil, bumpH_zero, alcO_some, Bool.not_true, Bool.not_false, Option.getD_some, Option.getD_none, Option.isSome_some, Option.isSome_none, f0]; done) | (simp only [seqO_eq, thenO_nor, thenO_ret, thenO_ex, gtO_some, bndO_ok, get_set_of, cndX_tmp, ifB_true, ifB_false, ifB_pos, ifB_neg, blkO_eq, blkX_nor, blkX_ret, blkX_ex, Nat.reduceEqDiff, Nat.zero_ne_one, Nat.one_ne_zero, reduceCtorEq, ↓reduceIte, oBin_add, oBin_sub, oBin_eql, oBin_neq, oBin_lss, oBin_leq, oBin_gtr, oBin_geq, oUn_not, oPick_true, oPick_false, oExtract_0, oExtract_1, oExtract_2, oMin_eq, oMax_eq, oFieldAddr_eq, oConvInt_i64, oBin_rem, oBuildSlice_11, oBinAgg_eql2, oBinAgg_neq2, oBuildSlice_1, oBuild_2, oBuildSlice_2, chk_zero, chk_nil, bumpH_zero, alcO_some, Bool.not_true, Bool.not_false, Option.getD_some, Option.getD_none, Option.isSome_some, Option.isSome_none]; rfl) | skip
          rw [htake, List.nodup_append]
          exact ⟨hn, by simp, fun x hx y hy => by rw [List.mem_singleton.1 hy]; rintro rfl; exact hm hx⟩
      · have hk' : k = l.length := by omega
        subst hk'
        simp (disch := omega) only [seqO_eq, thenO_nor, thenO_ret, thenO_ex, gtO_some, bndO_ok, get_set_of, cndX_tmp, ifB_true, ifB_false, ifB_pos, ifB_neg, blkO_eq, blkX_nor, blkX_ret, blkX_ex, Nat.reduceEqDiff, Nat.zero_ne_one, Nat.one_ne_zero, reduceCtorEq, ↓reduceIte, oBin_add, oBin_sub, oBin_eql, oBin_neq, oBin_lss, oBin_leq, oBin_gtr, oBin_geq, oUn_not, oPick_true, oPick_false, oExtract_0, oExtract_1, oExtract_2, oMin_eq, oMax_eq, oFieldAddr_eq, oConvInt_i64, oBin_rem, oBuildSlice_11, oBinAgg_eql2, oBinAgg_neq2, oBuildSlice_1, oBuild_2, oBuildSlice_2, chk_zero, chk_nil, bumpH_zero, alcO_some, Bool.not_true, Bool.not_false, Option.getD_some, Option.getD_none, Option.isSome_some, Option.isSome_none, Tryb17_2, Tryr17_2, f3, f0, s.length]
        rw [List.take_length] at hn
        exact ⟨rfl, rfl, hn⟩
    · rintro fr h' ⟨rfl, hn⟩
      simp only [seqO_eq, thenO_nor, thenO_ret, thenO_ex, gtO_some, bndO_ok, get_set_of, cndX_tmp, ifB_true, ifB_false, ifB_pos, ifB_neg, blkO_eq, blkX_nor, blkX_ret, blkX_ex, Nat.reduceEqDiff, Nat.zero_ne_one, Nat.one_ne_zero, reduceCtorEq, ↓reduceIte, oBin_add, oBin_sub, oBin_eql, oBin_neq, oBin_lss, oBin_leq, oBin_gtr, oBin_geq, oUn_not, oPick_true, oPick_false, oExtract_0, oExtract_1, oExtract_2, oMin_eq, oMax_eq, oFieldAddr_eq, oConvInt_i64, oBin_rem, oBuildSlice_11, oBinAgg_eql2, oBinAgg_neq2, oBuildSlice_1, oBuild_2, oBuildSlice_2, chk_zero, chk_nil, bumpH_zero, alcO_some, Bool.not_true, Bool.not_false, Option.getD_some, Option.getD_none, Option.isSome_some, Option.isSome_none, Tryr17_6]
      exact Tells.ret (by simp only [resK, get_set_of, seqO_eq, thenO_nor, thenO_ret, thenO_ex, gtO_some, bndO_ok, get_set_of, cndX_tmp, ifB_true, ifB_false, ifB_pos, ifB_neg, blkO_eq, blkX_nor, blkX_ret, blkX_ex, Nat.reduceEqDiff, Nat.zero_ne_one, Nat.one_ne_zero, reduceCtorEq, ↓reduceIte, oBin_add, oBin_sub, oBin_eql, oBin_neq, oBin_lss, oBin_leq, oBin_gtr, oBin_geq, oUn_not, oPick_true, oPick_false, oExtract_0, oExtract_1, oExtract_2, oMin_eq, oMax_eq, oFieldAddr_eq, oConvInt_i64, oBin_rem, oBuildSlice_11, oBinAgg_eql2, oBinAgg_neq2, oBuildSlice_1, oBuild_2, oBuildSlice_2, chk_zero, chk_nil, bumpH_zero, alcO_some, Bool.not_true, Bool.not_false, Option.getD_some, Option.getD_none, Option.isSome_some, Option.isSome_none, tupR]; rfl) ⟨by rw [decide_eq_true hn], rfl⟩
    · rintro fr h' ⟨f2, rfl, hn⟩
      exact Tells.ret (by simp only [resK, f2, tupR]; rfl) ⟨by rw [decide_eq_false hn], rfl⟩
  obtain ⟨r, h', e, rfl, rfl⟩ := this
  exact e
theorem within_ok {b : Nat} {h : Hp} {v : V} {l : List Int} (s : Sl b h 1 v l.length (ints l)) (hl : l.length < 1000) (x : Int) : TryF19 [v, .int .i64 x] h = .ok (.bool (decide (x ∈ l))) h := by
  rw [TryF19_eq]
  have : Tells Try.prog [.tmp 4] (fun r h' => r = .bool (decide (x ∈ l)) ∧ h' = h) (Tryd19 (T.set (some (.int .i64 x)) (Pos.of 1) (T.set (some v) (Pos.of 0) T.nil)) h) := by
    simp (disch := omega) only [seqO_eq, thenO_nor, thenO_ret, thenO_ex, gtO_some, bndO_ok, get_set_of, cndX_tmp, ifB_true, ifB_false, ifB_pos, ifB_neg, blkO_eq, blkX_nor, blkX_ret, blkX_ex, Nat.reduceEqDiff, Nat.zero_ne_one, Nat.one_ne_zero, reduceCtorEq, ↓reduceIte, oBin_add, oBin_sub, oBin_eql, oBin_neq, oBin_lss, oBin_leq, oBin_gtr, oBin_geq, oUn_not, oPick_true, oPick_false, oExtract_0, oExtract_1, oExtract_2, oMin_eq, oMax_eq, oFieldAddr_eq, oConvInt_i64, oBin_rem, oBuildSlice_11, oBinAgg_eql2, oBinAgg_neq2, oBuildSlice_1, oBuild_2, oBuildSlice_2, chk_zero, chk_nil, bumpH_zero, alcO_some, Bool.not_true, Bool.not_false, Option.getD_some, Option.getD_none, Option.isSome_some, Option.isSome_none, Tryd19, Tryr19_0, Tryr19_1]
    refine Oc.then (loop_rule (n := l.length) (fun m fr h' => ∃ k, k + m = l.length ∧ fr.get (Pos.of 0) = some v ∧ fr.get (Pos.of 1) = some (.int .i64 x) ∧ fr.get (Pos.of 5) = some (.int .i64 (k : Int)) ∧ h' = h ∧ x ∉ l.take k)
      (A := fun fr h' => h' = h ∧ x ∉ l) (B := fun fr h' => fr.get (Pos.of 4) = some (.bool true) ∧ h' = h ∧ x ∈ l) (by rw [lf_eq]; omega) ?_ ?_) ?_ ?_
    · exact ⟨0, by omega, by simp only [seqO_eq, thenO_nor, thenO_ret, thenO_ex, gtO_some, bndO_ok, get_set_of, cndX_tmp, ifB_true, ifB_false, ifB_pos, ifB_neg, blkO_eq, blkX_nor, blkX_ret, blkX_ex, Nat.reduceEqDiff, Nat.zero_ne_one, Nat.one_ne_zero, reduceCtorEq, ↓reduceIte, oBin_add, oBin_sub, oBin_eql, oBin_neq, oBin_lss, oBin_leq, oBin_gtr, oBin_geq, oUn_not, oPick_true, oPick_false, oExtract_0, oExtract_1, oExtract_2, oMin_eq, oMax_eq, oFieldAddr_eq, oConvInt_i64, oBin_rem, oBuildSlice_11, oBinAgg_eql2, oBinAgg_neq2, oBuildSlice_1, oBuild_2, oBuildSlice_2, chk_zero, chk_nil, bumpH_zero, alcO_some, Bool.not_true, Bool.not_false, Option.getD_some, Option.getD_none, Option.isSome_some, Option.isSome_none], by simp only [seqO_eq, thenO_nor, thenO_ret, thenO_ex, gtO_some, bndO_ok, get_set_of, cndX_tmp, ifB_true, ifB_false, ifB_pos, ifB_neg, blkO_eq, blkX_nor, blkX_ret, blkX_ex, Nat.reduceEqDiff, Nat.zero_ne_one, Nat.one_ne_zero, reduceCtorEq, ↓reduceIte, oBin_add, oBin_sub, oBin_eql, oBin_neq, oBin_lss, oBin_leq, oBin_gtr, oBin_geq, oUn_not, oPick_true, oPick_false, oExtract_0, oExtract_1, oExtract_2, oMin_eq, oMax_eq, oFieldAddr_eq, oConvInt_i64, oBin_rem, oBuildSlice_11, oBinAgg_eql2, oBinAgg_neq2, oBuildSlice_1, oBuild_2, oBuildSlice_2, chk_zero, chk_nil, bumpH_zero, alcO_some, Bool.not_true, Bool.not_false, Option.getD_some, Option.getD_none, Option.isSome_some, Option.isSome_none], by simp only [seqO_eq, thenO_nor, thenO_ret, thenO_ex, gtO_some, bndO_ok, get_set_of, cndX_tmp, ifB_true, ifB_false, ifB_pos, ifB_neg, blkO_eq, blkX_nor, blkX_ret, blkX_ex, Nat.reduceEqDiff, Nat.zero_ne_one, Nat.one_ne_zero, reduceCtorEq, ↓reduceIte, oBin_add, oBin_sub, oBin_eql, oBin_neq, oBin_lss, oBin_leq, oBin_gtr, oBin_geq, oUn_not, oPick_true, oPick_false, oExtract_0, oExtract_1, oExtract_2, oMin_eq, oMax_eq, oFieldAddr_eq, oConvInt_i64, oBin_rem, oBuildSlice_11, oBinAgg_eql2, oBinAgg_neq2, oBuildSlice_1, oBuild_2, oBuildSlice_2, chk_zero, chk_nil, bumpH_zero, alcO_some, Bool.not_true, Bool.not_false, Option.getD_some, Option.getD_none, Option.isSome_some, Option.isSome_none]; rfl, rfl, by simp⟩
    · rintro m fr h' ⟨k, hkm, f0, f1, f5, rfl, hn⟩
      by_cases hk : k < l.length
      · obtain ⟨i, q, e1, hib, e2⟩ := Sl.ints s hk
        have e2' := e2 h' rfl
        by_cases hx : l[k] = x
        · simp (disch := omega) only [seqO_eq, thenO_nor, thenO_ret, thenO_ex, gtO_some, bndO_ok, get_set_of, cndX_tmp, ifB_true, ifB_false, ifB_pos, ifB_neg, blkO_eq, blkX_nor, blkX_ret, blkX_ex, Nat.reduceEqDiff, Nat.zero_ne_one, Nat.one_ne_zero, reduceCtorEq, ↓reduceIte, oBin_add, oBin_sub, oBin_eql, oBin_neq, oBin_lss, oBin_leq, oBin_gtr, oBin_geq, oUn_not, oPick_true, oPick_false, oExtract_0, oExtract_1, oExtract_2, oMin_eq, oMax_eq, oFieldAddr_eq, oConvInt_i64, oBin_rem, oBuildSlice_11, oBinAgg_eql2, oBinAgg_neq2, oBuildSlice_1, oBuild_2, oBuildSlice_2, chk_zero, chk_nil, bumpH_zero, alcO_some, Bool.not_true, Bool.not_false, Option.getD_some, Option.getD_none, Option.isSome_some, Option.isSome_none, Tryb19_2, Tryr19_2, f5, f0, s.length, Tryr19_4, e1, e2', f1, Tryr19_5]
          refine ⟨by simp only [seqO_eq, thenO_nor, thenO_ret, thenO_ex, gtO_some, bndO_ok, get_set_of, cndX_tmp, ifB_true, ifB_false, ifB_pos, ifB_neg, blkO_eq, blkX_nor, blkX_ret, blkX_ex, Nat.reduceEqDiff, Nat.zero_ne_one, Nat.one_ne_zero, reduceCtorEq, ↓reduceIte, oBin_add, oBin_sub, oBin_eql, oBin_neq, oBin_lss, oBin_leq, oBin_gtr, oBin_geq, oUn_not, oPick_true, oPick_false, oExtract_0, oExtract_1, oExtract_2, oMin_eq, oMax_eq, oFieldAddr_eq, oConvInt_i64, oBin_rem, oBuildSlice_11, oBinAgg_eql2, oBinAgg_neq2, oBuildSlice_1, oBuild_2, oBuildSlice_2, chk_zero, chk_nil, bumpH_zero, alcO_some, Bool.not_true, Bool.not_false, Option.getD_some, Option.getD_none, Option.isSome_some, Option.isSome_none], rfl, ?_⟩
          subst hx
          exact List.getElem_mem hk
        · simp (disch := omega) only [seqO_eq, thenO_nor, thenO_ret, thenO_ex, gtO_some, bndO_ok, get_set_of, cndX_tmp, ifB_true, ifB_false, ifB_pos, ifB_neg, blkO_eq, blkX_nor, blkX_ret, blkX_ex, Nat.reduceEqDiff, Nat.zero_ne_one, Nat.one_ne_zero, reduceCtorEq, ↓reduceIte, oBin_add, oBin_sub, oBin_eql, oBin_neq, oBin_lss, oBin_leq, oBin_gtr, oBin_geq, oUn_not, oPick_true, oPick_false, oExtract_0, oExtract_1, oExtract_2, oMin_eq, oMax_eq, oFieldAddr_eq, oConvInt_i64, oBin_rem, oBuildSlice_11, oBinAgg_eql2, oBinAgg_neq2, oBuildSlice_1, oBuild_2, oBuildSlice_2, chk_zero, chk_nil, bumpH_zero, alcO_some, Bool.not_true, Bool.not_false, Option.getD_some, Option.getD_none, Option.isSome_some, Option.isSome_none, Tryb19_2, Tryr19_2, f5, f0, s.length, Tryr19_4, e1, e2', f1, Tryr19_3]
          refine ⟨m - 1, by omega, k + 1, by omega, ?_, ?_, ?_, rfl, take_notin hk hn hx⟩
          all_goals first | (simp only [seqO_eq, thenO_nor, thenO_ret, thenO_ex, gtO_some, bndO_ok, get_set_of, cndX_tmp, ifB_true, ifB_false, ifB_pos, ifB_neg, blkO_eq, blkX_nor, blkX_ret, blkX_ex, Nat.reduceEqDiff, Nat.zero_ne_one, Nat.one_ne_zero, reduceCtorEq, ↓reduceIte, oBin_add, oBin_sub, oBin_eql, oBin_neq, oBin_lss, oBin_leq, oBin_gtr, oBin_geq, oUn_not, oPick_true, oPick_false, oExtract_0, oExtract_1, oExtract_2, oMin_eq, oMax_eq, oFieldAddr_eq, oConvInt_i64, oBin_rem, oBuildSlice_11, oBinAgg_eql2, oBinAgg_neq2, oBuildSlice_1, oBuild_2, oBuildSlice_2, chk_zero, chk_nil, bumpH_zero, alcO_some, Bool.not_true, Bool.not_false, Option.getD_some, Option.getD_none, Option.isSome_some, Option.isSome_none, f0, f1]; done) | (simp only [seqO_eq, thenO_nor, thenO_ret, thenO_ex, gtO_some, bndO_ok, get_set_of, cndX_tmp, ifB_true, ifB_false, ifB_pos, ifB_neg, blkO_eq, blkX_nor, blkX_ret, blkX_ex, Nat.reduceEqDiff, Nat.zero_ne_one, Nat.one_ne_zero, reduceCtorEq, ↓reduceIte, oBin_add, oBin_sub, oBin_eql, oBin_neq, oBin_lss, oBin_leq, oBin_gtr, oBin_geq, oUn_not, oPick_true, oPick_false, oExtract_0, oExtract_1, oExtract_2, oMin_eq, oMax_eq, oFieldAddr_eq, oConvInt_i64, oBin_rem, oBuildSlice_11, oBinAgg_eql2, oBinAgg_neq2, oBuildSlice_1, oBuild_2, oBuildSlice_2, chk_zero, chk_nil, bumpH_zero, alcO_some, Bool.not_true, Bool.not_false, Option.getD_some, Option.getD_none, Option.isSome_some, Option.isSome_none]; rfl)
      · have hk' : k = l.length := by omega
        subst hk'
        simp (disch := omega) only [seqO_eq, thenO_nor, thenO_ret, thenO_ex, gtO_some, bndO_ok, get_set_of, cndX_tmp, ifB_true, ifB_false, ifB_pos, ifB_neg, blkO_eq, blkX_nor, blkX_ret, blkX_ex, Nat.reduceEqDiff, Nat.zero_ne_one, Nat.one_ne_zero, reduceCtorEq, ↓reduceIte, oBin_add, oBin_sub, oBin_eql, oBin_neq, oBin_lss, oBin_leq, oBin_gtr, oBin_geq, oUn_not, oPick_true, oPick_false, oExtract_0, oExtract_1, oExtract_2, oMin_eq, oMax_eq, oFieldAddr_eq, oConvInt_i64, oBin_rem, oBuildSlice_11, oBinAgg_eql2, oBinAgg_neq2, oBuildSlice_1, oBuild_2, oBuildSlice_2, chk_zero, chk_nil, bumpH_zero, alcO_some, Bool.not_true, Bool.not_false, Option.getD_some, Option.getD_none, Option.isSome_some, Option.isSome_none, Tryb19_2, Tryr19_2, f5, f0, s.length]
        rw [List.take_length] at hn
        exact ⟨rfl, rfl, hn⟩
    · rintro fr h' ⟨rfl, hn⟩
      simp only [seqO_eq, thenO_nor, thenO_ret, thenO_ex, gtO_some, bndO_ok, get_set_of, cndX_tmp, ifB_true, ifB_false, ifB_pos, ifB_neg, blkO_eq, blkX_nor, blkX_ret, blkX_ex, Nat.reduceEqDiff, Nat.zero_ne_one, Nat.one_ne_zero, reduceCtorEq, ↓reduceIte, oBin_add, oBin_sub, oBin_eql, oBin_neq, oBin_lss, oBin_leq, oBin_gtr, oBin_geq, oUn_not, oPick_true, oPick_false, oExtract_0, oExtract_1, oExtract_2, oMin_eq, oMax_eq, oFieldAddr_eq, oConvInt_i64, oBin_rem, oBuildSlice_11, oBinAgg_eql2, oBinAgg_neq2, oBuildSlice_1, oBuild_2, oBuildSlice_2, chk_zero, chk_nil, bumpH_zero, alcO_some, Bool.not_true, Bool.not_false, Option.getD_some, Option.getD_none, Option.isSome_some, Option.isSome_none, Tryr19_6]
      exact Tells.ret (by simp only [resK, get_set_of, seqO_eq, thenO_nor, thenO_ret, thenO_ex, gtO_some, bndO_ok, get_set_of, cndX_tmp, ifB_true, ifB_false, ifB_pos, ifB_neg, blkO_eq, blkX_nor, blkX_ret, blkX_ex, Nat.reduceEqDiff, Nat.zero_ne_one, Nat.one_ne_zero, reduceCtorEq, ↓reduceIte, oBin_add, oBin_sub, oBin_eql, oBin_neq, oBin_lss, oBin_leq, oBin_gtr, oBin_geq, oUn_not, oPick_true, oPick_false, oExtract_0, oExtract_1, oExtract_2, oMin_eq, oMax_eq, oFieldAddr_eq, oConvInt_i64, oBin_rem, oBuildSlice_11, oBinAgg_eql2, oBinAgg_neq2, oBuildSlice_1, oBuild_2, oBuildSlice_2, chk_zero, chk_nil, bumpH_zero, alcO_some, Bool.not_true, Bool.not_false, Option.getD_some, Option.getD_none, Option.isSome_some, Option.isSome_none, tupR]; rfl) ⟨by rw [decide_eq_false hn], rfl⟩
    · rintro fr h' ⟨f4, rfl, hm⟩
      exact Tells.ret (by simp only [resK, f4, tupR]; rfl) ⟨by rw [decide_eq_true hm], rfl⟩
  obtain ⟨r, h', e, rfl, rfl⟩ := this
  exact e
theorem index_ok {b : Nat} {h : Hp} {v : V} {l : List Int} (s : Sl b h 1 v l.length (ints l)) (hl : l.length < 1000) (x : Int) : TryF22 [v, .int .i64 x] h = .ok (.int .i64 (idxI l x)) h := by
  rw [TryF22_eq]
  have : Tells Try.prog [.tmp 4] (fun r h' => r = .int .i64 (idxI l x) ∧ h' = h) (Tryd22 (T.set (some (.int .i64 x)) (Pos.of 1) (T.set (some v) (Pos.of 0) T.nil)) h) := by
    simp (disch := omega) only [seqO_eq, thenO_nor, thenO_ret, thenO_ex, gtO_some, bndO_ok, get_set_of, cndX_tmp, ifB_true, ifB_false, ifB_pos, ifB_neg, blkO_eq, blkX_nor, blkX_ret, blkX_ex, Nat.reduceEqDiff, Nat.zero_ne_one, Nat.one_ne_zero, reduceCtorEq, ↓reduceIte, oBin_add, oBin_sub, oBin_eql, oBin_neq, oBin_lss, oBin_leq, oBin_gtr, oBin_geq, oUn_not, oPick_true, oPick_false, oExtract_0, oExtract_1, oExtract_2, oMin_eq, oMax_eq, oFieldAddr_eq, oConvInt_i64, oBin_rem, oBuildSlice_11, oBinAgg_eql2, oBinAgg_neq2, oBuildSlice_1, oBuild_2, oBuildSlice_2, chk_zero, chk_nil, bumpH_zero, alcO_some, Bool.not_true, Bool.not_false, Option.getD_some, Option.getD_none, Option.isSome_some, Option.isSome_none, Tryd22, Tryr22_0, Tryr22_1, s.length]
    refine Oc.then (loop_rule (n := l.length) (fun m fr h' => ∃ k, k + m = l.length ∧ fr.get (Pos.of 0) = some v ∧ fr.get (Pos.of 1) = some (.int .i64 x) ∧ fr.get (Pos.of 7) = some (.int .i64 (l.length : Int)) ∧ fr.get (Pos.of 8) = some (.int .i64 (k : Int)) ∧ h' = h ∧ x ∉ l.take k)
      (A := fun fr h' => h' = h ∧ x ∉ l) (B := fun fr h' => fr.get (Pos.of 4) = some (.int .i64 (idxI l x)) ∧ h' = h) (by rw [lf_eq]; omega) ?_ ?_) ?_ ?_
    · exact ⟨0, by omega, by simp only [seqO_eq, thenO_nor, thenO_ret, thenO_ex, gtO_some, bndO_ok, get_set_of, cndX_tmp, ifB_true, ifB_false, ifB_pos, ifB_neg, blkO_eq, blkX_nor, blkX_ret, blkX_ex, Nat.reduceEqDiff, Nat.zero_ne_one, Nat.one_ne_zero, reduceCtorEq, ↓reduceIte, oBin_add, oBin_sub, oBin_eql, oBin_neq, oBin_lss, oBin_leq, oBin_gtr, oBin_geq, oUn_not, oPick_true, oPick_false, oExtract_0, oExtract_1, oExtract_2, oMin_eq, oMax_eq, oFieldAddr_eq, oConvInt_i64, oBin_rem, oBuildSlice_11, oBinAgg_eql2, oBinAgg_neq2, oBuildSlice_1, oBuild_2, oBuildSlice_2, chk_zero, chk_nil, bumpH_zero, alcO_some, Bool.not_true, Bool.not_false, Option.getD_some, Option.getD_none, Option.isSome_some, Option.isSome_none], by simp only [seqO_eq, thenO_nor, thenO_ret, thenO_ex, gtO_some, bndO_ok, get_set_of, cndX_tmp, ifB_true, ifB_false, ifB_pos, ifB_neg, blkO_eq, blkX_nor, blkX_ret, blkX_ex, Nat.reduceEqDiff, Nat.zero_ne_one, Nat.one_ne_zero, reduceCtorEq, ↓reduceIte, oBin_add, oBin_sub, oBin_eql, oBin_neq, oBin_lss, oBin_leq, oBin_gtr, oBin_geq, oUn_not, oPick_true, oPick_false, oExtract_0, oExtract_1, oExtract_2, oMin_eq, oMax_eq, oFieldAddr_eq, oConvInt_i64, oBin_rem, oBuildSlice_11, oBinAgg_eql2, oBinAgg_neq2, oBuildSlice_1, oBuild_2, oBuildSlice_2, chk_zero, chk_nil, bumpH_zero, alcO_some, Bool.not_true, Bool.not_false, Option.getD_some, Option.getD_none, Option.isSome_some, Option.isSome_none], by simp only [seqO_eq, thenO_nor, thenO_ret, thenO_ex, gtO_some, bndO_ok, get_set_of, cndX_tmp, ifB_true, ifB_false, ifB_pos, ifB_neg, blkO_eq, blkX_nor, blkX_ret, blkX_ex, Nat.reduceEqDiff, Nat.zero_ne_one, Nat.one_ne_zero, reduceCtorEq, ↓reduceIte, oBin_add, oBin_sub, oBin_eql, oBin_neq, oBin_lss, oBin_leq, oBin_gtr, oBin_geq, oUn_not, oPick_true, oPick_false, oExtract_0, oExtract_1, oExtract_2, oMin_eq, oMax_eq, oFieldAddr_eq, oConvInt_i64, oBin_rem, oBuildSlice_11, oBinAgg_eql2, oBinAgg_neq2, oBuildSlice_1, oBuild_2, oBuildSlice_2, chk_zero, chk_nil, bumpH_zero, alcO_some, Bool.not_true, Bool.not_false, Option.getD_some, Option.getD_none, Option.isSome_some, Option.isSome_none], by simp only [seqO_eq, thenO_nor, thenO_ret, thenO_ex, gtO_some, bndO_ok, get_set_of, cndX_tmp, ifB_true, ifB_false, ifB_pos, ifB_neg, blkO_eq, blkX_nor, blkX_ret, blkX_ex, Nat.reduceEqDiff, Nat.zero_ne_one, Nat.one_ne_zero, reduceCtorEq, ↓reduceIte, oBin_add, oBin_sub, oBin_eql, oBin_neq, oBin_lss, oBin_leq, oBin_gtr, oBin_geq, oUn_not, oPick_true, oPick_false, oExtract_0, oExtract_1, oExtract_2, oMin_eq, oMax_eq, oFieldAddr_eq, oConvInt_i64, oBin_rem, oBuildSlice_11, oBinAgg_eql2, oBinAgg_neq2, oBuildSlice_1, oBuild_2, oBuildSlice_2, chk_zero, chk_nil, bumpH_zero, alcO_some, Bool.not_true, Bool.not_false, Option.getD_some, Option.getD_none, Option.isSome_some, Option.isSome_none]; rfl, rfl, by simp⟩
    · rintro m fr h' ⟨k, hkm, f0, f1, f7, f8, rfl, hn⟩
      by_cases hk : k < l.length
      · obtain ⟨i, q, e1, hib, e2⟩ := Sl.ints s hk
        have e2' := e2 h' rfl
        by_cases hx : x = l[k]
        · simp (disch := omega) only [seqO_eq, thenO_nor, thenO_ret, thenO_ex, gtO_some, bndO_ok, get_set_of, cndX_tmp, ifB_true, ifB_false, ifB_pos, ifB_neg, blkO_eq, blkX_nor, blkX_ret, blkX_ex, Nat.reduceEqDiff, Nat.zero_ne_one, Nat.one_ne_zero, reduceCtorEq, ↓reduceIte, oBin_add, oBin_sub, oBin_eql, oBin_neq, oBin_lss, oBin_leq, oBin_gtr, oBin_geq, oUn_not, oPick_true, oPick_false, oExtract_0, oExtract_1, oExtract_2, oMin_eq, oMax_eq, oFieldAddr_eq, oConvInt_i64, oBin_rem, oBuildSlice_11, oBinAgg_eql2, oBinAgg_neq2, oBuildSlice_1, oBuild_2, oBuildSlice_2, chk_zero, chk_nil, bumpH_zero, alcO_some, Bool.not_true, Bool.not_false, Option.getD_some, Option.getD_none, Option.isSome_some, Option.isSome_none, Tryb22_2, Tryr22_2, f8, f7, Tryr22_3, Tryr22_4, f0, e1, e2', f1, Tryr22_5]
          refine ⟨?_, rfl⟩
          subst hx
          simp only [seqO_eq, thenO_nor, thenO_ret, thenO_ex, gtO_some, bndO_ok, get_set_of, cndX_tmp, ifB_true, ifB_false, ifB_pos, ifB_neg, blkO_eq, blkX_nor, blkX_ret, blkX_ex, Nat.reduceEqDiff, Nat.zero_ne_one, Nat.one_ne_zero, reduceCtorEq, ↓reduceIte, oBin_add, oBin_sub, oBin_eql, oBin_neq, oBin_lss, oBin_leq, oBin_gtr, oBin_geq, oUn_not, oPick_true, oPick_false, oExtract_0, oExtract_1, oExtract_2, oMin_eq, oMax_eq, oFieldAddr_eq, oConvInt_i64, oBin_rem, oBuildSlice_11, oBinAgg_eql2, oBinAgg_neq2, oBuildSlice_1, oBuild_2, oBuildSlice_2, chk_zero, chk_nil, bumpH_zero, alcO_some, Bool.not_true, Bool.not_false, Option.getD_some, Option.getD_none, Option.isSome_some, Option.isSome_none, idxI_at hk hn]
        · simp (disch := omega) only [seqO_eq, thenO_nor, thenO_ret, thenO_ex, gtO_some, bndO_ok, get_set_of, cndX_tmp, ifB_true, ifB_false, ifB_pos, ifB_neg, blkO_eq, blkX_nor, blkX_ret, blkX_ex, Nat.reduceEqDiff, Nat.zero_ne_one, Nat.one_ne_zero, reduceCtorEq, ↓reduceIte, oBin_add, oBin_sub, oBin_eql, oBin_neq, oBin_lss, oBin_leq, oBin_gtr, oBin_geq, oUn_not, oPick_true, oPick_false, oExtract_0, oExtract_1, oExtract_2, oMin_eq, oMax_eq, oFieldAddr_eq, oConvInt_i64, oBin_rem, oBuildSlice_11, oBinAgg_eql2, oBinAgg_neq2, oBuildSlice_1, oBuild_2, oBuildSlice_2, chk_zero, chk_nil, bumpH_zero, alcO_some, Bool.not_true, Bool.not_false, Option.getD_some, Option.getD_none, Option.isSome_some, Option.isSome_none, Tryb22_2, Tryr22_2, f8, f7, Tryr22_3, Tryr22_4, f0, e1, e2', f1, Tryr22_6]
          refine ⟨m - 1, by omega, k + 1, by omega, ?_, ?_, ?_, ?_, rfl, take_notin hk hn (Ne.symm hx)⟩
          all_goals first | (simp only [seqO_eq, thenO_nor, thenO_ret, thenO_ex, gtO_some, bndO_ok, get_set_of, cndX_tmp, ifB_true, ifB_false, ifB_pos, ifB_neg, blkO_eq, blkX_nor, blkX_ret, blkX_ex, Nat.reduceEqDiff, Nat.zero_ne_one, Nat.one_ne_zero, reduceCtorEq, ↓reduceIte, oBin_add, oBin_sub, oBin_eql, oBin_neq, oBin_lss, oBin_leq, oBin_gtr, oBin_geq, oUn_not, oPick_true, oPick_false, oExtract_0, oExtract_1, oExtract_2, oMin_eq, oMax_eq, oFieldAddr_eq, oConvInt_i64, oBin_rem, oBuildSlice_11, oBinAgg_eql2, oBinAgg_neq2, oBuildSlice_1, oBuild_2, oBuildSlice_2, chk_zero, chk_nil, bumpH_zero, alcO_some, Bool.not_true, Bool.not_false, Option.getD_some, Option.getD_none, Option.isSome_some, Option.isSome_none, f0, f1, f7]; done) | (simp only [seqO_eq, thenO_nor, thenO_ret, thenO_ex, gtO_some, bndO_ok, get_set_of, cndX_tmp, ifB_true, ifB_false, ifB_pos, ifB_neg, blkO_eq, blkX_nor, blkX_ret, blkX_ex, Nat.reduceEqDiff, Nat.zero_ne_one, Nat.one_ne_zero, reduceCtorEq, ↓reduceIte, oBin_add, oBin_sub, oBin_eql, oBin_neq, oBin_lss, oBin_leq, oBin_gtr, oBin_geq, oUn_not, oPick_true, oPick_false, oExtract_0, oExtract_1, oExtract_2, oMin_eq, oMax_eq, oFieldAddr_eq, oConvInt_i64, oBin_rem, oBuildSlice_11, oBinAgg_eql2, oBinAgg_neq2, oBuildSlice_1, oBuild_2, oBuildSlice_2, chk_zero, chk_nil, bumpH_zero, alcO_some, Bool.not_true, Bool.not_false, Option.getD_some, Option.getD_none, Option.isSome_some, Option.isSome_none]; rfl)
      · have hk' : k = l.length := by omega
        subst hk'
        simp (disch := omega) only [seqO_eq, thenO_nor, thenO_ret, thenO_ex, gtO_some, bndO_ok, get_set_of, cndX_tmp, ifB_true, ifB_false, ifB_pos, ifB_neg, blkO_eq, blkX_nor, blkX_ret, blkX_ex, Nat.reduceEqDiff, Nat.zero_ne_one, Nat.one_ne_zero, reduceCtorEq, ↓reduceIte, oBin_add, oBin_sub, oBin_eql, oBin_neq, oBin_lss, oBin_leq, oBin_gtr, oBin_geq, oUn_not, oPick_true, oPick_false, oExtract_0, oExtract_1, oExtract_2, oMin_eq, oMax_eq, oFieldAddr_eq, oConvInt_i64, oBin_rem, oBuildSlice_11, oBinAgg_eql2, oBinAgg_neq2, oBuildSlice_1, oBuild_2, oBuildSlice_2, chk_zero, chk_nil, bumpH_zero, alcO_some, Bool.not_true, Bool.not_false, Option.getD_some, Option.getD_none, Option.isSome_some, Option.isSome_none, Tryb22_2, Tryr22_2, f8, f7]
        rw [List.take_length] at hn
        exact ⟨rfl, rfl, hn⟩
    · rintro fr h' ⟨rfl, hn⟩
      simp only [seqO_eq, thenO_nor, thenO_ret, thenO_ex, gtO_some, bndO_ok, get_set_of, cndX_tmp, ifB_true, ifB_false, ifB_pos, ifB_neg, blkO_eq, blkX_nor, blkX_ret, blkX_ex, Nat.reduceEqDiff, Nat.zero_ne_one, Nat.one_ne_zero, reduceCtorEq, ↓reduceIte, oBin_add, oBin_sub, oBin_eql, oBin_neq, oBin_lss, oBin_leq, oBin_gtr, oBin_geq, oUn_not, oPick_true, oPick_false, oExtract_0, oExtract_1, oExtract_2, oMin_eq, oMax_eq, oFieldAddr_eq, oConvInt_i64, oBin_rem, oBuildSlice_11, oBinAgg_eql2, oBinAgg_neq2, oBuildSlice_1, oBuild_2, oBuildSlice_2, chk_zero, chk_nil, bumpH_zero, alcO_some, Bool.not_true, Bool.not_false, Option.getD_some, Option.getD_none, Option.isSome_some, Option.isSome_none, Tryr22_7]
      exact Tells.ret (by simp only [resK, get_set_of, seqO_eq, thenO_nor, thenO_ret, thenO_ex, gtO_some, bndO_ok, get_set_of, cndX_tmp, ifB_true, ifB_false, ifB_pos, ifB_neg, blkO_eq, blkX_nor, blkX_ret, blkX_ex, Nat.reduceEqDiff, Nat.zero_ne_one, Nat.one_ne_zero, reduceCtorEq, ↓reduceIte, oBin_add, oBin_sub, oBin_eql, oBin_neq, oBin_lss, oBin_leq, oBin_gtr, oBin_geq, oUn_not, oPick_true, oPick_false, oExtract_0, oExtract_1, oExtract_2, oMin_eq, oMax_eq, oFieldAddr_eq, oConvInt_i64, oBin_rem, oBuildSlice_11, oBinAgg_eql2, oBinAgg_neq2, oBuildSlice_1, oBuild_2, oBuildSlice_2, chk_zero, chk_nil, bumpH_zero, alcO_some, Bool.not_true, Bool.not_false, Option.getD_some, Option.getD_none, Option.isSome_some, Option.isSome_none, tupR]; rfl) ⟨by rw [idxI_none hn], rfl⟩
    · rintro fr h' ⟨f4, rfl⟩
      exact Tells.ret (by simp only [resK, f4, tupR]; first | done | rfl) ⟨rfl, rfl⟩
  obtain ⟨r, h', e, rfl, rfl⟩ := this
  exact e
theorem idxI_ge (l : List Int) (x : Int) : idxI l x ≥ 0 ↔ x ∈ l := by
  unfold idxI
  cases e : l.idxOf? x with
  | none => simp [(idxOf?_none l x).1 e]
  | some i =>
    simp
    by_cases hm : x ∈ l
    · exact hm
    · rw [(idxOf?_none l x).2 hm] at e; cases e
theorem contains_ok {b : Nat} {h : Hp} {v : V} {l : List Int} (s : Sl b h 1 v l.length (ints l)) (hl : l.length < 1000) (x : Int) : TryF20 [v, .int .i64 x] h = .ok (.bool (decide (x ∈ l))) h := by
  rw [TryF20_eq]
  have ix := index_ok s hl x
  simp (disch := omega) only [seqO_eq, thenO_nor, thenO_ret, thenO_ex, gtO_some, bndO_ok, get_set_of, cndX_tmp, ifB_true, ifB_false, ifB_pos, ifB_neg, blkO_eq, blkX_nor, blkX_ret, blkX_ex, Nat.reduceEqDiff, Nat.zero_ne_one, Nat.one_ne_zero, reduceCtorEq, ↓reduceIte, oBin_add, oBin_sub, oBin_eql, oBin_neq, oBin_lss, oBin_leq, oBin_gtr, oBin_geq, oUn_not, oPick_true, oPick_false, oExtract_0, oExtract_1, oExtract_2, oMin_eq, oMax_eq, oFieldAddr_eq, oConvInt_i64, oBin_rem, oBuildSlice_11, oBinAgg_eql2, oBinAgg_neq2, oBuildSlice_1, oBuild_2, oBuildSlice_2, chk_zero, chk_nil, bumpH_zero, alcO_some, Bool.not_true, Bool.not_false, Option.getD_some, Option.getD_none, Option.isSome_some, Option.isSome_none, Tryd20, Tryr20_0, Tryr20_1, ix, idxI_ge]
  simp only [outR, resK, get_set_of, seqO_eq, thenO_nor, thenO_ret, thenO_ex, gtO_some, bndO_ok, get_set_of, cndX_tmp, ifB_true, ifB_false, ifB_pos, ifB_neg, blkO_eq, blkX_nor, blkX_ret, blkX_ex, Nat.reduceEqDiff, Nat.zero_ne_one, Nat.one_ne_zero, reduceCtorEq, ↓reduceIte, oBin_add, oBin_sub, oBin_eql, oBin_neq, oBin_lss, oBin_leq, oBin_gtr, oBin_geq, oUn_not, oPick_true, oPick_false, oExtract_0, oExtract_1, oExtract_2, oMin_eq, oMax_eq, oFieldAddr_eq, oConvInt_i64, oBin_rem, oBuildSlice_11, oBinAgg_eql2, oBinAgg_neq2, oBuildSlice_1, oBuild_2, oBuildSlice_2, chk_zero, chk_nil, bumpH_zero, alcO_some, Bool.not_true, Bool.not_false, Option.getD_some, Option.getD_none, Option.isSome_some, Option.isSome_none, tupR]
end Go.Proofs.Ytmlbnkojodkieaa

noncomputable section
namespace Go.Proofs.Ytmlbnkojodkieaa
open Go Go.Proofs Go.Vm
set_option linter.unusedVariables false
set_option maxRecDepth 100000
set_option linter.unusedSimpArgs false
theorem idxI_keep {now : List Int} {x last : Int} (l : List Int) (hl : -1 ≤ last) : keepGo now (x :: l) last = if idxI now x > last then ((keepGo now l (idxI now x)).1, x :: (keepGo now l (idxI now x)).2) else (x :: (keepGo now l last).1, (keepGo now l last).2) := by
  unfold idxI
  cases hi : now.idxOf? x with
  | none =>
    simp only [keepGo, hi]
    rw [if_neg (by omega)]
  | some i => simp only [keepGo, hi, gt_iff_lt]
theorem idxI_ge1 (l : List Int) (x : Int) : -1 ≤ idxI l x := by unfold idxI; split <;> omega
theorem rdiff_ok {b : Nat} {h : Hp} {v u : V} {old now : List Int} (s : Sl b h 1 v old.length (ints old)) (t : Sl b h 1 u now.length (ints now)) (hb : b ≤ h.next.nat) (hl : old.length < 1000) (hm : now.length < 1000) :
    ∃ r h', TryF11 [v, u] h = .ok r h' ∧ DiffQ old now b h r h' := by
  rw [TryF11_eq]
  show Tells Try.prog _ (DiffQ old now b h) _
  have p1 := single_ok s hl
  have p2 := single_ok t hm
  have hno : ∀ fr, ¬ (old.Nodup ∧ now.Nodup) → Tells Try.prog [.tmp 4, .tmp 5] (DiffQ old now b h) (Out.ret (T.set (some .nils) (Pos.of 5) (T.set (some .nils) (Pos.of 4) fr)) h) := fun fr hn => by
    refine Tells.ret (by simp only [resK, get_set_of, seqO_eq, thenO_nor, thenO_ret, thenO_ex, gtO_some, bndO_ok, get_set_of, cndX_tmp, ifB_true, ifB_false, ifB_pos, ifB_neg, blkO_eq, blkX_nor, blkX_ret, blkX_ex, Nat.reduceEqDiff, Nat.zero_ne_one, Nat.one_ne_zero, reduceCtorEq, ↓reduceIte, oBin_add, oBin_sub, oBin_eql, oBin_neq, oBin_lss, oBin_leq, oBin_gtr, oBin_geq, oUn_not, oPick_true, oPick_false, oExtract_0, oExtract_1, oExtract_2, oMin_eq, oMax_eq, oFieldAddr_eq, oConvInt_i64, oBin_rem, oBuildSlice_11, oBinAgg_eql2, oBinAgg_neq2, oBuildSlice_1, oBuild_2, oBuildSlice_2, chk_zero, chk_nil, bumpH_zero, alcO_some, Bool.not_true, Bool.not_false, Option.getD_some, Option.getD_none, Option.isSome_some, Option.isSome_none, tupR]; rfl) ⟨Fr.refl _ _, .nils, .nils, rfl, ?_, ?_⟩
    · rw [diffM, if_neg hn]; exact sl_nil _ _ _
    · rw [diffM, if_neg hn]; exact sl_nil _ _ _
  by_cases nd1 : old.Nodup
  · rw [decide_eq_true nd1] at p1
    by_cases nd2 : now.Nodup
    · rw [decide_eq_true nd2] at p2
      simp (disch := omega) only [seqO_eq, thenO_nor, thenO_ret, thenO_ex, gtO_some, bndO_ok, get_set_of, cndX_tmp, ifB_true, ifB_false, ifB_pos, ifB_neg, blkO_eq, blkX_nor, blkX_ret, blkX_ex, Nat.reduceEqDiff, Nat.zero_ne_one, Nat.one_ne_zero, reduceCtorEq, ↓reduceIte, oBin_add, oBin_sub, oBin_eql, oBin_neq, oBin_lss, oBin_leq, oBin_gtr, oBin_geq, oUn_not, oPick_true, oPick_false, oExtract_0, oExtract_1, oExtract_2, oMin_eq, oMax_eq, oFieldAddr_eq, oConvInt_i64, oBin_rem, oBuildSlice_11, oBinAgg_eql2, oBinAgg_neq2, oBuildSlice_1, oBuild_2, oBuildSlice_2, chk_zero, chk_nil, bumpH_zero, alcO_some, Bool.not_true, Bool.not_false, Option.getD_some, Option.getD_none, Option.isSome_some, Option.isSome_none, Tryd11, Tryr11_0, Tryr11_1, p1, p2, Tryr11_3, Tryr11_4, Tryr11_5]
      have hG : diffM old now = ((keepGo now old (-1)).1, addGo (keepGo now old (-1)).2 now 0) := by rw [diffM, if_pos ⟨nd1, nd2⟩]
      refine Oc.then (loop_rule (n := old.length) (fun m fr h' => ∃ (k : Nat) (last : Int) (g kp : V) (G0 K0 : List Int), k + m = old.length ∧ -1 ≤ last ∧ fr.get (Pos.of 0) = some v ∧ fr.get (Pos.of 1) = some u ∧ fr.get (Pos.of 9) = some (.int .i64 (k : Int)) ∧
          fr.get (Pos.of 8) = some (.int .i64 last) ∧ fr.get (Pos.of 6) = some kp ∧ fr.get (Pos.of 7) = some g ∧
          Own h.next.nat h' 1 g G0.length (ints G0) ∧ Own h.next.nat h' 1 kp K0.length (ints K0) ∧ Sep g kp ∧ Fr h.next.nat h h' ∧
          G0.length ≤ k ∧ K0.length ≤ k ∧ G0 ++ (keepGo now (old.drop k) last).1 = (keepGo now old (-1)).1 ∧ K0 ++ (keepGo now (old.drop k) last).2 = (keepGo now old (-1)).2)
        (A := fun fr h' => ∃ (g kp : V), fr.get (Pos.of 1) = some u ∧ fr.get (Pos.of 6) = some kp ∧ fr.get (Pos.of 7) = some g ∧
          Own h.next.nat h' 1 g (keepGo now old (-1)).1.length (ints (keepGo now old (-1)).1) ∧ Own h.next.nat h' 1 kp (keepGo now old (-1)).2.length (ints (keepGo now old (-1)).2) ∧ (keepGo now old (-1)).2.length ≤ old.length ∧ Fr h.next.nat h h')
        (B := fun _ _ => False) (by rw [lf_eq]; omega) ?_ ?_) ?_ ?_
      · refine ⟨0, -1, .nils, .nils, [], [], by omega, by omega, ?_, ?_, ?_, ?_, ?_, ?_, Own.nil _ _ _, Own.nil _ _ _, Sep.nil _, Fr.refl _ _, by simp, by simp, by simp, by simp⟩
        all_goals first | (simp only [seqO_eq, thenO_nor, thenO_ret, thenO_ex, gtO_some, bndO_ok, get_set_of, cndX_tmp, ifB_true, ifB_false, ifB_pos, ifB_neg, blkO_eq, blkX_nor, blkX_ret, blkX_ex, Nat.reduceEqDiff, Nat.zero_ne_one, Nat.one_ne_zero, reduceCtorEq, ↓reduceIte, oBin_add, oBin_sub, oBin_eql, oBin_neq, oBin_lss, oBin_leq, oBin_gtr, oBin_geq, oUn_not, oPick_true, oPick_false, oExtract_0, oExtract_1, oExtract_2, oMin_eq, oMax_eq, oFieldAddr_eq, oConvInt_i64, oBin_rem, oBuildSlice_11, oBinAgg_eql2, oBinAgg_neq2, oBuildSlice_1, oBuild_2, oBuildSlice_2, chk_zero, chk_nil, bumpH_zero, alcO_some, Bool.not_true, Bool.not_false, Option.getD_some, Option.getD_none, Option.isSome_some, Option.isSome_none]; done) | (simp only [seqO_eq, thenO_nor, thenO_ret, thenO_ex, gtO_some, bndO_ok, get_set_of, cndX_tmp, ifB_true, ifB_false, ifB_pos, ifB_neg, blkO_eq, blkX_nor, blkX_ret, blkX_ex, Nat.reduceEqDiff, Nat.zero_ne_one, Nat.one_ne_zero, reduceCtorEq, ↓reduceIte, oBin_add, oBin_sub, oBin_eql, oBin_neq, oBin_lss, oBin_leq, oBin_gtr, oBin_geq, oUn_not, oPick_true, oPick_false, oExtract_0, oExtract_1, oExtract_2, oMin_eq, oMax_eq, oFieldAddr_eq, oConvInt_i64, oBin_rem, oBuildSlice_11, oBinAgg_eql2, oBinAgg_neq2, oBuildSlice_1, oBuild_2, oBuildSlice_2, chk_zero, chk_nil, bumpH_zero, alcO_some, Bool.not_true, Bool.not_false, Option.getD_some, Option.getD_none, Option.isSome_some, Option.isSome_none]; rfl)
      · rintro m fr h' ⟨k, last, g, kp, G0, K0, hkm, hlast, f0, f1, f9, f8, f6, f7, og, ok, sgk, frh, hGl, hKl, eG, eK⟩
        by_cases hk : k < old.length
        · obtain ⟨i, q, e1, hib, e2⟩ := Sl.ints s hk
          have frb := frh.le hb
          have e2' := e2 h' (frb.get i hib)
          have hd : old.drop k = old[k] :: old.drop (k + 1) := List.drop_eq_getElem_cons hk
          generalize old[k] = x at *
          have pl := place_ok (t.fr frb) hm x
          have hge := idxI_ge1 now x
          rw [hd, idxI_keep _ hlast] at eG eK
          by_cases hgt : idxI now x > last
          · rw [if_pos hgt] at eG eK
            obtain ⟨kp', h2, a1, a2, a3, a4⟩ := append_own2 (bt := 8) (new := [.int .i64 x]) ok frh.next rfl (by omega)
            obtain ⟨og2, skg⟩ := a4 _ _ _ _ og sgk.symm
            simp (disch := omega) only [seqO_eq, thenO_nor, thenO_ret, thenO_ex, gtO_some, bndO_ok, get_set_of, cndX_tmp, ifB_true, ifB_false, ifB_pos, ifB_neg, blkO_eq, blkX_nor, blkX_ret, blkX_ex, Nat.reduceEqDiff, Nat.zero_ne_one, Nat.one_ne_zero, reduceCtorEq, ↓reduceIte, oBin_add, oBin_sub, oBin_eql, oBin_neq, oBin_lss, oBin_leq, oBin_gtr, oBin_geq, oUn_not, oPick_true, oPick_false, oExtract_0, oExtract_1, oExtract_2, oMin_eq, oMax_eq, oFieldAddr_eq, oConvInt_i64, oBin_rem, oBuildSlice_11, oBinAgg_eql2, oBinAgg_neq2, oBuildSlice_1, oBuild_2, oBuildSlice_2, chk_zero, chk_nil, bumpH_zero, alcO_some, Bool.not_true, Bool.not_false, Option.getD_some, Option.getD_none, Option.isSome_some, Option.isSome_none, Tryb11_6, Tryr11_6, f9, f0, s.length, Tryr11_8, f1, e1, e2', pl, Tryr11_9, f8, Tryr11_10, Tryr11_11, f6, a1, Tryr11_7]
            refine ⟨m - 1, by omega, k + 1, idxI now x, g, kp', G0, K0 ++ [x], by omega, by omega, ?_, ?_, ?_, ?_, ?_, ?_, og2, by rw [ints_append, List.length_append]; exact a2, skg.symm, frh.trans a3, by omega, by simp; omega, eG, by rw [← eK]; simp⟩
            all_goals first | (simp only [seqO_eq, thenO_nor, thenO_ret, thenO_ex, gtO_some, bndO_ok, get_set_of, cndX_tmp, ifB_true, ifB_false, ifB_pos, ifB_neg, blkO_eq, blkX_nor, blkX_ret, blkX_ex, Nat.reduceEqDiff, Nat.zero_ne_one, Nat.one_ne_zero, reduceCtorEq, ↓reduceIte, oBin_add, oBin_sub, oBin_eql, oBin_neq, oBin_lss, oBin_leq, oBin_gtr, oBin_geq, oUn_not, oPick_true, oPick_false, oExtract_0, oExtract_1, oExtract_2, oMin_eq, oMax_eq, oFieldAddr_eq, oConvInt_i64, oBin_rem, oBuildSlice_11, oBinAgg_eql2, oBinAgg_neq2, oBuildSlice_1, oBuild_2, oBuildSlice_2, chk_zero, chk_nil, bumpH_zero, alcO_some, Bool.not_true, Bool.not_false, Option.getD_some, Option.getD_none, Option.isSome_some, Option.isSome_none, f0, f1, f7]; done) | (simp only [seqO_eq, thenO_nor, thenO_ret, thenO_ex, gtO_some, bndO_ok, get_set_of, cndX_tmp, ifB_true, ifB_false, ifB_pos, ifB_neg, blkO_eq, blkX_nor, blkX_ret, blkX_ex, Nat.reduceEqDiff, Nat.zero_ne_one, Nat.one_ne_zero, reduceCtorEq, ↓reduceIte, oBin_add, oBin_sub, oBin_eql, oBin_neq, oBin_lss, oBin_leq, oBin_gtr, oBin_geq, oUn_not, oPick_true, oPick_false, oExtract_0, oExtract_1, oExtract_2, oMin_eq, oMax_eq, oFieldAddr_eq, oConvInt_i64, oBin_rem, oBuildSlice_11, oBinAgg_eql2, oBinAgg_neq2, oBuildSlice_1, oBuild_2, oBuildSlice_2, chk_zero, chk_nil, bumpH_zero, alcO_some, Bool.not_true, Bool.not_false, Option.getD_some, Option.getD_none, Option.isSome_some, Option.isSome_none]; rfl)
          · rw [if_neg hgt] at eG eK
            obtain ⟨g', h2, a1, a2, a3, a4⟩ := append_own2 (bt := 8) (new := [.int .i64 x]) og frh.next rfl (by omega)
            obtain ⟨ok2, sgk2⟩ := a4 _ _ _ _ ok sgk
            simp (disch := omega) only [seqO_eq, thenO_nor, thenO_ret, thenO_ex, gtO_some, bndO_ok, get_set_of, cndX_tmp, ifB_true, ifB_false, ifB_pos, ifB_neg, blkO_eq, blkX_nor, blkX_ret, blkX_ex, Nat.reduceEqDiff, Nat.zero_ne_one, Nat.one_ne_zero, reduceCtorEq, ↓reduceIte, oBin_add, oBin_sub, oBin_eql, oBin_neq, oBin_lss, oBin_leq, oBin_gtr, oBin_geq, oUn_not, oPick_true, oPick_false, oExtract_0, oExtract_1, oExtract_2, oMin_eq, oMax_eq, oFieldAddr_eq, oConvInt_i64, oBin_rem, oBuildSlice_11, oBinAgg_eql2, oBinAgg_neq2, oBuildSlice_1, oBuild_2, oBuildSlice_2, chk_zero, chk_nil, bumpH_zero, alcO_some, Bool.not_true, Bool.not_false, Option.getD_some, Option.getD_none, Option.isSome_some, Option.isSome_none, Tryb11_6, Tryr11_6, f9, f0, s.length, Tryr11_8, f1, e1, e2', pl, Tryr11_9, f8, Tryr11_12, f7, a1, Tryr11_7]
            refine ⟨m - 1, by omega, k + 1, last, g', kp, G0 ++ [x], K0, by omega, hlast, ?_, ?_, ?_, ?_, ?_, ?_, by rw [ints_append, List.length_append]; exact a2, ok2, sgk2, frh.trans a3, by simp; omega, by omega, by rw [← eG]; simp, eK⟩
            all_goals first | (simp only [seqO_eq, thenO_nor, thenO_ret, thenO_ex, gtO_some, bndO_ok, get_set_of, cndX_tmp, ifB_true, ifB_false, ifB_pos, ifB_neg, blkO_eq, blkX_nor, blkX_ret, blkX_ex, Nat.reduceEqDiff, Nat.zero_ne_one, Nat.one_ne_zero, reduceCtorEq, ↓reduceIte, oBin_add, oBin_sub, oBin_eql, oBin_neq, oBin_lss, oBin_leq, oBin_gtr, oBin_geq, oUn_not, oPick_true, oPick_false, oExtract_0, oExtract_1, oExtract_2, oMin_eq, oMax_eq, oFieldAddr_eq, oConvInt_i64, oBin_rem, oBuildSlice_11, oBinAgg_eql2, oBinAgg_neq2, oBuildSlice_1, oBuild_2, oBuildSlice_2, chk_zero, chk_nil, bumpH_zero, alcO_some, Bool.not_true, Bool.not_false, Option.getD_some, Option.getD_none, Option.isSome_some, Option.isSome_none, f0, f1, f8, f6]; done) | (simp only [seqO_eq, thenO_nor, thenO_ret, thenO_ex, gtO_some, bndO_ok, get_set_of, cndX_tmp, ifB_true, ifB_false, ifB_pos, ifB_neg, blkO_eq, blkX_nor, blkX_ret, blkX_ex, Nat.reduceEqDiff, Nat.zero_ne_one, Nat.one_ne_zero, reduceCtorEq, ↓reduceIte, oBin_add, oBin_sub, oBin_eql, oBin_neq, oBin_lss, oBin_leq, oBin_gtr, oBin_geq, oUn_not, oPick_true, oPick_false, oExtract_0, oExtract_1, oExtract_2, oMin_eq, oMax_eq, oFieldAddr_eq, oConvInt_i64, oBin_rem, oBuildSlice_11, oBinAgg_eql2, oBinAgg_neq2, oBuildSlice_1, oBuild_2, oBuildSlice_2, chk_zero, chk_nil, bumpH_zero, alcO_some, Bool.not_true, Bool.not_false, Option.getD_some, Option.getD_none, Option.isSome_some, Option.isSome_none]; rfl)
        · have hk' : k = old.length := by omega
          subst hk'
          rw [List.drop_length] at eG eK
          simp only [keepGo, List.append_nil] at eG eK
          subst eG eK
          simp (disch := omega) only [seqO_eq, thenO_nor, thenO_ret, thenO_ex, gtO_some, bndO_ok, get_set_of, cndX_tmp, ifB_true, ifB_false, ifB_pos, ifB_neg, blkO_eq, blkX_nor, blkX_ret, blkX_ex, Nat.reduceEqDiff, Nat.zero_ne_one, Nat.one_ne_zero, reduceCtorEq, ↓reduceIte, oBin_add, oBin_sub, oBin_eql, oBin_neq, oBin_lss, oBin_leq, oBin_gtr, oBin_geq, oUn_not, oPick_true, oPick_false, oExtract_0, oExtract_1, oExtract_2, oMin_eq, oMax_eq, oFieldAddr_eq, oConvInt_i64, oBin_rem, oBuildSlice_11, oBinAgg_eql2, oBinAgg_neq2, oBuildSlice_1, oBuild_2, oBuildSlice_2, chk_zero, chk_nil, bumpH_zero, alcO_some, Bool.not_true, Bool.not_false, Option.getD_some, Option.getD_none, Option.isSome_some, Option.isSome_none, Tryb11_6, Tryr11_6, f9, f0, s.length]
          exact ⟨rfl, g, kp, by simp only [seqO_eq, thenO_nor, thenO_ret, thenO_ex, gtO_some, bndO_ok, get_set_of, cndX_tmp, ifB_true, ifB_false, ifB_pos, ifB_neg, blkO_eq, blkX_nor, blkX_ret, blkX_ex, Nat.reduceEqDiff, Nat.zero_ne_one, Nat.one_ne_zero, reduceCtorEq, ↓reduceIte, oBin_add, oBin_sub, oBin_eql, oBin_neq, oBin_lss, oBin_leq, oBin_gtr, oBin_geq, oUn_not, oPick_true, oPick_false, oExtract_0, oExtract_1, oExtract_2, oMin_eq, oMax_eq, oFieldAddr_eq, oConvInt_i64, oBin_rem, oBuildSlice_11, oBinAgg_eql2, oBinAgg_neq2, oBuildSlice_1, oBuild_2, oBuildSlice_2, chk_zero, chk_nil, bumpH_zero, alcO_some, Bool.not_true, Bool.not_false, Option.getD_some, Option.getD_none, Option.isSome_some, Option.isSome_none, f1], by simp only [seqO_eq, thenO_nor, thenO_ret, thenO_ex, gtO_some, bndO_ok, get_set_of, cndX_tmp, ifB_true, ifB_false, ifB_pos, ifB_neg, blkO_eq, blkX_nor, blkX_ret, blkX_ex, Nat.reduceEqDiff, Nat.zero_ne_one, Nat.one_ne_zero, reduceCtorEq, ↓reduceIte, oBin_add, oBin_sub, oBin_eql, oBin_neq, oBin_lss, oBin_leq, oBin_gtr, oBin_geq, oUn_not, oPick_true, oPick_false, oExtract_0, oExtract_1, oExtract_2, oMin_eq, oMax_eq, oFieldAddr_eq, oConvInt_i64, oBin_rem, oBuildSlice_11, oBinAgg_eql2, oBinAgg_neq2, oBuildSlice_1, oBuild_2, oBuildSlice_2, chk_zero, chk_nil, bumpH_zero, alcO_some, Bool.not_true, Bool.not_false, Option.getD_some, Option.getD_none, Option.isSome_some, Option.isSome_none, f6], by simp only [seqO_eq, thenO_nor, thenO_ret, thenO_ex, gtO_some, bndO_ok, get_set_of, cndX_tmp, ifB_true, ifB_false, ifB_pos, ifB_neg, blkO_eq, blkX_nor, blkX_ret, blkX_ex, Nat.reduceEqDiff, Nat.zero_ne_one, Nat.one_ne_zero, reduceCtorEq, ↓reduceIte, oBin_add, oBin_sub, oBin_eql, oBin_neq, oBin_lss, oBin_leq, oBin_gtr, oBin_geq, oUn_not, oPick_true, oPick_false, oExtract_0, oExtract_1, oExtract_2, oMin_eq, oMax_eq, oFieldAddr_eq, oConvInt_i64, oBin_rem, oBuildSlice_11, oBinAgg_eql2, oBinAgg_neq2, oBuildSlice_1, oBuild_2, oBuildSlice_2, chk_zero, chk_nil, bumpH_zero, alcO_some, Bool.not_true, Bool.not_false, Option.getD_some, Option.getD_none, Option.isSome_some, Option.isSome_none, f7], og, ok, hKl, frh⟩
      · rintro fr h' ⟨g, kp, f1, f6, f7, og, ok, hKl, frh⟩
        rw [← Prod.eta (diffM old now)] at hG
        injection hG with hG1 hG2
        generalize (keepGo now old (-1)).1 = G at *
        generalize (keepGo now old (-1)).2 = K at *
        simp (disch := omega) only [seqO_eq, thenO_nor, thenO_ret, thenO_ex, gtO_some, bndO_ok, get_set_of, cndX_tmp, ifB_true, ifB_false, ifB_pos, ifB_neg, blkO_eq, blkX_nor, blkX_ret, blkX_ex, Nat.reduceEqDiff, Nat.zero_ne_one, Nat.one_ne_zero, reduceCtorEq, ↓reduceIte, oBin_add, oBin_sub, oBin_eql, oBin_neq, oBin_lss, oBin_leq, oBin_gtr, oBin_geq, oUn_not, oPick_true, oPick_false, oExtract_0, oExtract_1, oExtract_2, oMin_eq, oMax_eq, oFieldAddr_eq, oConvInt_i64, oBin_rem, oBuildSlice_11, oBinAgg_eql2, oBinAgg_neq2, oBuildSlice_1, oBuild_2, oBuildSlice_2, chk_zero, chk_nil, bumpH_zero, alcO_some, Bool.not_true, Bool.not_false, Option.getD_some, Option.getD_none, Option.isSome_some, Option.isSome_none, Tryr11_13, Tryr11_14]
        refine Oc.then (loop_rule (n := now.length) (fun m fr g' => ∃ (k : Nat) (a : V) (A0 : List (Int × Int)), k + m = now.length ∧ fr.get (Pos.of 1) = some u ∧ fr.get (Pos.of 12) = some (.int .i64 (k : Int)) ∧
            fr.get (Pos.of 6) = some kp ∧ fr.get (Pos.of 7) = some g ∧ fr.get (Pos.of 11) = some a ∧ Own h'.next.nat g' 2 a A0.length (items A0) ∧ Fr h'.next.nat h' g' ∧ A0.length ≤ k ∧ A0 ++ addGo K (now.drop k) k = addGo K now 0)
          (A := fun fr g' => ∃ a, fr.get (Pos.of 7) = some g ∧ fr.get (Pos.of 11) = some a ∧ Own h'.next.nat g' 2 a (addGo K now 0).length (items (addGo K now 0)) ∧ Fr h'.next.nat h' g')
          (B := fun _ _ => False) (by rw [lf_eq]; omega) ?_ ?_) ?_ ?_
        · refine ⟨0, .nils, [], by omega, ?_, ?_, ?_, ?_, ?_, Own.nil _ _ _, Fr.refl _ _, by simp, by simp⟩
          all_goals first | (simp only [seqO_eq, thenO_nor, thenO_ret, thenO_ex, gtO_some, bndO_ok, get_set_of, cndX_tmp, ifB_true, ifB_false, ifB_pos, ifB_neg, blkO_eq, blkX_nor, blkX_ret, blkX_ex, Nat.reduceEqDiff, Nat.zero_ne_one, Nat.one_ne_zero, reduceCtorEq, ↓reduceIte, oBin_add, oBin_sub, oBin_eql, oBin_neq, oBin_lss, oBin_leq, oBin_gtr, oBin_geq, oUn_not, oPick_true, oPick_false, oExtract_0, oExtract_1, oExtract_2, oMin_eq, oMax_eq, oFieldAddr_eq, oConvInt_i64, oBin_rem, oBuildSlice_11, oBinAgg_eql2, oBinAgg_neq2, oBuildSlice_1, oBuild_2, oBuildSlice_2, chk_zero, chk_nil, bumpH_zero, alcO_some, Bool.not_true, Bool.not_false, Option.getD_some, Option.getD_none, Option.isSome_some, Option.isSome_none, f1, f6, f7]; done) | (simp only [seqO_eq, thenO_nor, thenO_ret, thenO_ex, gtO_some, bndO_ok, get_set_of, cndX_tmp, ifB_true, ifB_false, ifB_pos, ifB_neg, blkO_eq, blkX_nor, blkX_ret, blkX_ex, Nat.reduceEqDiff, Nat.zero_ne_one, Nat.one_ne_zero, reduceCtorEq, ↓reduceIte, oBin_add, oBin_sub, oBin_eql, oBin_neq, oBin_lss, oBin_leq, oBin_gtr, oBin_geq, oUn_not, oPick_true, oPick_false, oExtract_0, oExtract_1, oExtract_2, oMin_eq, oMax_eq, oFieldAddr_eq, oConvInt_i64, oBin_rem, oBuildSlice_11, oBinAgg_eql2, oBinAgg_neq2, oBuildSlice_1, oBuild_2, oBuildSlice_2, chk_zero, chk_nil, bumpH_zero, alcO_some, Bool.not_true, Bool.not_false, Option.getD_some, Option.getD_none, Option.isSome_some, Option.isSome_none]; rfl)
        · rintro m fr g' ⟨k, a, A0, hkm, f1, f12, f6, f7, f11, owa, frg, hAl, eA⟩
          by_cases hk : k < now.length
          · obtain ⟨i, q, e1, hib, e2⟩ := Sl.ints t hk
            have hib' : i.nat < h.next.nat := by omega
            have e2' := e2 g' (by rw [frg.get i (by have := frh.next; omega), frh.get i hib'])
            have hd : now.drop k = now[k] :: now.drop (k + 1) := List.drop_eq_getElem_cons hk
            generalize now[k] = x at *
            rw [hd] at eA
            have wi := within_ok (ok.sl.fr frg) (by omega) x
            by_cases hx : x ∈ K
            · rw [decide_eq_true hx] at wi
              simp (disch := omega) only [seqO_eq, thenO_nor, thenO_ret, thenO_ex, gtO_some, bndO_ok, get_set_of, cndX_tmp, ifB_true, ifB_false, ifB_pos, ifB_neg, blkO_eq, blkX_nor, blkX_ret, blkX_ex, Nat.reduceEqDiff, Nat.zero_ne_one, Nat.one_ne_zero, reduceCtorEq, ↓reduceIte, oBin_add, oBin_sub, oBin_eql, oBin_neq, oBin_lss, oBin_leq, oBin_gtr, oBin_geq, oUn_not, oPick_true, oPick_false, oExtract_0, oExtract_1, oExtract_2, oMin_eq, oMax_eq, oFieldAddr_eq, oConvInt_i64, oBin_rem, oBuildSlice_11, oBinAgg_eql2, oBinAgg_neq2, oBuildSlice_1, oBuild_2, oBuildSlice_2, chk_zero, chk_nil, bumpH_zero, alcO_some, Bool.not_true, Bool.not_false, Option.getD_some, Option.getD_none, Option.isSome_some, Option.isSome_none, Tryb11_15, Tryr11_15, f12, f1, t.length, Tryr11_17, f6, e1, e2', wi, Tryr11_16]
              refine ⟨m - 1, by omega, k + 1, a, A0, by omega, ?_, ?_, ?_, ?_, ?_, owa, frg, by omega, by rw [← eA]; simp [addGo, hx]⟩
              all_goals first | (simp only [seqO_eq, thenO_nor, thenO_ret, thenO_ex, gtO_some, bndO_ok, get_set_of, cndX_tmp, ifB_true, ifB_false, ifB_pos, ifB_neg, blkO_eq, blkX_nor, blkX_ret, blkX_ex, Nat.reduceEqDiff, Nat.zero_ne_one, Nat.one_ne_zero, reduceCtorEq, ↓reduceIte, oBin_add, oBin_sub, oBin_eql, oBin_neq, oBin_lss, oBin_leq, oBin_gtr, oBin_geq, oUn_not, oPick_true, oPick_false, oExtract_0, oExtract_1, oExtract_2, oMin_eq, oMax_eq, oFieldAddr_eq, oConvInt_i64, oBin_rem, oBuildSlice_11, oBinAgg_eql2, oBinAgg_neq2, oBuildSlice_1, oBuild_2, oBuildSlice_2, chk_zero, chk_nil, bumpH_zero, alcO_some, Bool.not_true, Bool.not_false, Option.getD_some, Option.getD_none, Option.isSome_some, Option.isSome_none, f1, f6, f7, f11]; done) | (simp only [seqO_eq, thenO_nor, thenO_ret, thenO_ex, gtO_some, bndO_ok, get_set_of, cndX_tmp, ifB_true, ifB_false, ifB_pos, ifB_neg, blkO_eq, blkX_nor, blkX_ret, blkX_ex, Nat.reduceEqDiff, Nat.zero_ne_one, Nat.one_ne_zero, reduceCtorEq, ↓reduceIte, oBin_add, oBin_sub, oBin_eql, oBin_neq, oBin_lss, oBin_leq, oBin_gtr, oBin_geq, oUn_not, oPick_true, oPick_false, oExtract_0, oExtract_1, oExtract_2, oMin_eq, oMax_eq, oFieldAddr_eq, oConvInt_i64, oBin_rem, oBuildSlice_11, oBinAgg_eql2, oBinAgg_neq2, oBuildSlice_1, oBuild_2, oBuildSlice_2, chk_zero, chk_nil, bumpH_zero, alcO_some, Bool.not_true, Bool.not_false, Option.getD_some, Option.getD_none, Option.isSome_some, Option.isSome_none]; rfl)
            · rw [decide_eq_false hx] at wi
              obtain ⟨v', g'', a1, a2, a3⟩ := append_own (bt := 16) (new := [.int .i64 x, .int .i64 (k : Int)]) owa frg.next rfl (by omega)
              simp (disch := omega) only [seqO_eq, thenO_nor, thenO_ret, thenO_ex, gtO_some, bndO_ok, get_set_of, cndX_tmp, ifB_true, ifB_false, ifB_pos, ifB_neg, blkO_eq, blkX_nor, blkX_ret, blkX_ex, Nat.reduceEqDiff, Nat.zero_ne_one, Nat.one_ne_zero, reduceCtorEq, ↓reduceIte, oBin_add, oBin_sub, oBin_eql, oBin_neq, oBin_lss, oBin_leq, oBin_gtr, oBin_geq, oUn_not, oPick_true, oPick_false, oExtract_0, oExtract_1, oExtract_2, oMin_eq, oMax_eq, oFieldAddr_eq, oConvInt_i64, oBin_rem, oBuildSlice_11, oBinAgg_eql2, oBinAgg_neq2, oBuildSlice_1, oBuild_2, oBuildSlice_2, chk_zero, chk_nil, bumpH_zero, alcO_some, Bool.not_true, Bool.not_false, Option.getD_some, Option.getD_none, Option.isSome_some, Option.isSome_none, Tryb11_15, Tryr11_15, f12, f1, t.length, Tryr11_17, f6, e1, e2', wi, Tryr11_18, f11, a1, Tryr11_16]
              refine ⟨m - 1, by omega, k + 1, v', A0 ++ [(x, (k : Int))], by omega, ?_, ?_, ?_, ?_, ?_, by rw [items_append, List.length_append]; exact a2, frg.trans a3, by simp; omega, by rw [← eA]; simp [addGo, hx]⟩
              all_goals first | (simp only [seqO_eq, thenO_nor, thenO_ret, thenO_ex, gtO_some, bndO_ok, get_set_of, cndX_tmp, ifB_true, ifB_false, ifB_pos, ifB_neg, blkO_eq, blkX_nor, blkX_ret, blkX_ex, Nat.reduceEqDiff, Nat.zero_ne_one, Nat.one_ne_zero, reduceCtorEq, ↓reduceIte, oBin_add, oBin_sub, oBin_eql, oBin_neq, oBin_lss, oBin_leq, oBin_gtr, oBin_geq, oUn_not, oPick_true, oPick_false, oExtract_0, oExtract_1, oExtract_2, oMin_eq, oMax_eq, oFieldAddr_eq, oConvInt_i64, oBin_rem, oBuildSlice_11, oBinAgg_eql2, oBinAgg_neq2, oBuildSlice_1, oBuild_2, oBuildSlice_2, chk_zero, chk_nil, bumpH_zero, alcO_some, Bool.not_true, Bool.not_false, Option.getD_some, Option.getD_none, Option.isSome_some, Option.isSome_none, f1, f6, f7]; done) | (simp only [seqO_eq, thenO_nor, thenO_ret, thenO_ex, gtO_some, bndO_ok, get_set_of, cndX_tmp, ifB_true, ifB_false, ifB_pos, ifB_neg, blkO_eq, blkX_nor, blkX_ret, blkX_ex, Nat.reduceEqDiff, Nat.zero_ne_one, Nat.one_ne_zero, reduceCtorEq, ↓reduceIte, oBin_add, oBin_sub, oBin_eql, oBin_neq, oBin_lss, oBin_leq, oBin_gtr, oBin_geq, oUn_not, oPick_true, oPick_false, oExtract_0, oExtract_1, oExtract_2, oMin_eq, oMax_eq, oFieldAddr_eq, oConvInt_i64, oBin_rem, oBuildSlice_11, oBinAgg_eql2, oBinAgg_neq2, oBuildSlice_1, oBuild_2, oBuildSlice_2, chk_zero, chk_nil, bumpH_zero, alcO_some, Bool.not_true, Bool.not_false, Option.getD_some, Option.getD_none, Option.isSome_some, Option.isSome_none]; rfl)
          · have hk' : k = now.length := by omega
            subst hk'
            rw [List.drop_length] at eA
            simp only [addGo, List.append_nil] at eA
            subst eA
            simp (disch := omega) only [seqO_eq, thenO_nor, thenO_ret, thenO_ex, gtO_some, bndO_ok, get_set_of, cndX_tmp, ifB_true, ifB_false, ifB_pos, ifB_neg, blkO_eq, blkX_nor, blkX_ret, blkX_ex, Nat.reduceEqDiff, Nat.zero_ne_one, Nat.one_ne_zero, reduceCtorEq, ↓reduceIte, oBin_add, oBin_sub, oBin_eql, oBin_neq, oBin_lss, oBin_leq, oBin_gtr, oBin_geq, oUn_not, oPick_true, oPick_false, oExtract_0, oExtract_1, oExtract_2, oMin_eq, oMax_eq, oFieldAddr_eq, oConvInt_i64, oBin_rem, oBuildSlice_11, oBinAgg_eql2, oBinAgg_neq2, oBuildSlice_1, oBuild_2, oBuildSlice_2, chk_zero, chk_nil, bumpH_zero, alcO_some, Bool.not_true, Bool.not_false, Option.getD_some, Option.getD_none, Option.isSome_some, Option.isSome_none, Tryb11_15, Tryr11_15, f12, f1, t.length]
            exact ⟨rfl, a, by simp only [seqO_eq, thenO_nor, thenO_ret, thenO_ex, gtO_some, bndO_ok, get_set_of, cndX_tmp, ifB_true, ifB_false, ifB_pos, ifB_neg, blkO_eq, blkX_nor, blkX_ret, blkX_ex, Nat.reduceEqDiff, Nat.zero_ne_one, Nat.one_ne_zero, reduceCtorEq, ↓reduceIte, oBin_add, oBin_sub, oBin_eql, oBin_neq, oBin_lss, oBin_leq, oBin_gtr, oBin_geq, oUn_not, oPick_true, oPick_false, oExtract_0, oExtract_1, oExtract_2, oMin_eq, oMax_eq, oFieldAddr_eq, oConvInt_i64, oBin_rem, oBuildSlice_11, oBinAgg_eql2, oBinAgg_neq2, oBuildSlice_1, oBuild_2, oBuildSlice_2, chk_zero, chk_nil, bumpH_zero, alcO_some, Bool.not_true, Bool.not_false, Option.getD_some, Option.getD_none, Option.isSome_some, Option.isSome_none, f7], by simp only [seqO_eq, thenO_nor, thenO_ret, thenO_ex, gtO_some, bndO_ok, get_set_of, cndX_tmp, ifB_true, ifB_false, ifB_pos, ifB_neg, blkO_eq, blkX_nor, blkX_ret, blkX_ex, Nat.reduceEqDiff, Nat.zero_ne_one, Nat.one_ne_zero, reduceCtorEq, ↓reduceIte, oBin_add, oBin_sub, oBin_eql, oBin_neq, oBin_lss, oBin_leq, oBin_gtr, oBin_geq, oUn_not, oPick_true, oPick_false, oExtract_0, oExtract_1, oExtract_2, oMin_eq, oMax_eq, oFieldAddr_eq, oConvInt_i64, oBin_rem, oBuildSlice_11, oBinAgg_eql2, oBinAgg_neq2, oBuildSlice_1, oBuild_2, oBuildSlice_2, chk_zero, chk_nil, bumpH_zero, alcO_some, Bool.not_true, Bool.not_false, Option.getD_some, Option.getD_none, Option.isSome_some, Option.isSome_none, f11], owa, frg⟩
        · rintro fr g' ⟨a, f7, f11, owa, frg⟩
          simp only [seqO_eq, thenO_nor, thenO_ret, thenO_ex, gtO_some, bndO_ok, get_set_of, cndX_tmp, ifB_true, ifB_false, ifB_pos, ifB_neg, blkO_eq, blkX_nor, blkX_ret, blkX_ex, Nat.reduceEqDiff, Nat.zero_ne_one, Nat.one_ne_zero, reduceCtorEq, ↓reduceIte, oBin_add, oBin_sub, oBin_eql, oBin_neq, oBin_lss, oBin_leq, oBin_gtr, oBin_geq, oUn_not, oPick_true, oPick_false, oExtract_0, oExtract_1, oExtract_2, oMin_eq, oMax_eq, oFieldAddr_eq, oConvInt_i64, oBin_rem, oBuildSlice_11, oBinAgg_eql2, oBinAgg_neq2, oBuildSlice_1, oBuild_2, oBuildSlice_2, chk_zero, chk_nil, bumpH_zero, alcO_some, Bool.not_true, Bool.not_false, Option.getD_some, Option.getD_none, Option.isSome_some, Option.isSome_none, Tryr11_19, f7, f11]
          refine Tells.ret (by simp only [resK, get_set_of, seqO_eq, thenO_nor, thenO_ret, thenO_ex, gtO_some, bndO_ok, get_set_of, cndX_tmp, ifB_true, ifB_false, ifB_pos, ifB_neg, blkO_eq, blkX_nor, blkX_ret, blkX_ex, Nat.reduceEqDiff, Nat.zero_ne_one, Nat.one_ne_zero, reduceCtorEq, ↓reduceIte, oBin_add, oBin_sub, oBin_eql, oBin_neq, oBin_lss, oBin_leq, oBin_gtr, oBin_geq, oUn_not, oPick_true, oPick_false, oExtract_0, oExtract_1, oExtract_2, oMin_eq, oMax_eq, oFieldAddr_eq, oConvInt_i64, oBin_rem, oBuildSlice_11, oBinAgg_eql2, oBinAgg_neq2, oBuildSlice_1, oBuild_2, oBuildSlice_2, chk_zero, chk_nil, bumpH_zero, alcO_some, Bool.not_true, Bool.not_false, Option.getD_some, Option.getD_none, Option.isSome_some, Option.isSome_none, tupR]; rfl) ⟨(frh.trans (frg.le (by have := frh.next; omega))).le hb, g, a, rfl, ?_, ?_⟩
          · rw [hG1]; exact (og.sl.fr frg).le frg.next
          · rw [hG2]; exact owa.sl
        · intro _ _ hf; exact hf.elim
      · intro _ _ hf; exact hf.elim
    · rw [decide_eq_false nd2] at p2
      simp (disch := omega) only [seqO_eq, thenO_nor, thenO_ret, thenO_ex, gtO_some, bndO_ok, get_set_of, cndX_tmp, ifB_true, ifB_false, ifB_pos, ifB_neg, blkO_eq, blkX_nor, blkX_ret, blkX_ex, Nat.reduceEqDiff, Nat.zero_ne_one, Nat.one_ne_zero, reduceCtorEq, ↓reduceIte, oBin_add, oBin_sub, oBin_eql, oBin_neq, oBin_lss, oBin_leq, oBin_gtr, oBin_geq, oUn_not, oPick_true, oPick_false, oExtract_0, oExtract_1, oExtract_2, oMin_eq, oMax_eq, oFieldAddr_eq, oConvInt_i64, oBin_rem, oBuildSlice_11, oBinAgg_eql2, oBinAgg_neq2, oBuildSlice_1, oBuild_2, oBuildSlice_2, chk_zero, chk_nil, bumpH_zero, alcO_some, Bool.not_true, Bool.not_false, Option.getD_some, Option.getD_none, Option.isSome_some, Option.isSome_none, Tryd11, Tryr11_0, Tryr11_1, p1, p2, Tryr11_2]
      exact hno _ fun h => nd2 h.2
  · rw [decide_eq_false nd1] at p1
    simp (disch := omega) only [seqO_eq, thenO_nor, thenO_ret, thenO_ex, gtO_some, bndO_ok, get_set_of, cndX_tmp, ifB_true, ifB_false, ifB_pos, ifB_neg, blkO_eq, blkX_nor, blkX_ret, blkX_ex, Nat.reduceEqDiff, Nat.zero_ne_one, Nat.one_ne_zero, reduceCtorEq, ↓reduceIte, oBin_add, oBin_sub, oBin_eql, oBin_neq, oBin_lss, oBin_leq, oBin_gtr, oBin_geq, oUn_not, oPick_true, oPick_false, oExtract_0, oExtract_1, oExtract_2, oMin_eq, oMax_eq, oFieldAddr_eq, oConvInt_i64, oBin_rem, oBuildSlice_11, oBinAgg_eql2, oBinAgg_neq2, oBuildSlice_1, oBuild_2, oBuildSlice_2, chk_zero, chk_nil, bumpH_zero, alcO_some, Bool.not_true, Bool.not_false, Option.getD_some, Option.getD_none, Option.isSome_some, Option.isSome_none, Tryd11, Tryr11_0, Tryr11_1, p1, Tryr11_2]
    exact hno _ fun h => nd1 h.1
theorem items_ok {b : Nat} {h : Hp} {v u : V} {l m : List (Int × Int)} (s : Sl b h 2 v l.length (items l)) (t : Sl b h 2 u m.length (items m)) (hl : l.length < 1000) :
    TryF12 [v, u] h = .ok (.bool (decide (l = m))) h := by
  rw [TryF12_eq]
  have : Tells Try.prog [.tmp 4] (fun r h' => r = .bool (decide (l = m)) ∧ h' = h) (Tryd12 (T.set (some u) (Pos.of 1) (T.set (some v) (Pos.of 0) T.nil)) h) := by
    by_cases hn : l.length = m.length
    · simp (disch := omega) only [seqO_eq, thenO_nor, thenO_ret, thenO_ex, gtO_some, bndO_ok, get_set_of, cndX_tmp, ifB_true, ifB_false, ifB_pos, ifB_neg, blkO_eq, blkX_nor, blkX_ret, blkX_ex, Nat.reduceEqDiff, Nat.zero_ne_one, Nat.one_ne_zero, reduceCtorEq, ↓reduceIte, oBin_add, oBin_sub, oBin_eql, oBin_neq, oBin_lss, oBin_leq, oBin_gtr, oBin_geq, oUn_not, oPick_true, oPick_false, oExtract_0, oExtract_1, oExtract_2, oMin_eq, oMax_eq, oFieldAddr_eq, oConvInt_i64, oBin_rem, oBuildSlice_11, oBinAgg_eql2, oBinAgg_neq2, oBuildSlice_1, oBuild_2, oBuildSlice_2, chk_zero, chk_nil, bumpH_zero, alcO_some, Bool.not_true, Bool.not_false, Option.getD_some, Option.getD_none, Option.isSome_some, Option.isSome_none, Tryd12, Tryr12_0, Tryr12_1, s.length, t.length, Tryr12_3]
      refine Oc.then (loop_rule (n := l.length) (fun k' fr h' => ∃ k, k + k' = l.length ∧ fr.get (Pos.of 0) = some v ∧ fr.get (Pos.of 1) = some u ∧ fr.get (Pos.of 5) = some (.int .i64 (k : Int)) ∧ h' = h ∧ l.take k = m.take k)
        (A := fun fr h' => h' = h ∧ l = m) (B := fun fr h' => fr.get (Pos.of 4) = some (.bool false) ∧ h' = h ∧ l ≠ m) (by rw [lf_eq]; omega) ?_ ?_) ?_ ?_
      · exact ⟨0, by omega, by simp only [seqO_eq, thenO_nor, thenO_ret, thenO_ex, gtO_some, bndO_ok, get_set_of, cndX_tmp, ifB_true, ifB_false, ifB_pos, ifB_neg, blkO_eq, blkX_nor, blkX_ret, blkX_ex, Nat.reduceEqDiff, Nat.zero_ne_one, Nat.one_ne_zero, reduceCtorEq, ↓reduceIte, oBin_add, oBin_sub, oBin_eql, oBin_neq, oBin_lss, oBin_leq, oBin_gtr, oBin_geq, oUn_not, oPick_true, oPick_false, oExtract_0, oExtract_1, oExtract_2, oMin_eq, oMax_eq, oFieldAddr_eq, oConvInt_i64, oBin_rem, oBuildSlice_11, oBinAgg_eql2, oBinAgg_neq2, oBuildSlice_1, oBuild_2, oBuildSlice_2, chk_zero, chk_nil, bumpH_zero, alcO_some, Bool.not_true, Bool.not_false, Option.getD_some, Option.getD_none, Option.isSome_some, Option.isSome_none], by simp only [seqO_eq, thenO_nor, thenO_ret, thenO_ex, gtO_some, bndO_ok, get_set_of, cndX_tmp, ifB_true, ifB_false, ifB_pos, ifB_neg, blkO_eq, blkX_nor, blkX_ret, blkX_ex, Nat.reduceEqDiff, Nat.zero_ne_one, Nat.one_ne_zero, reduceCtorEq, ↓reduceIte, oBin_add, oBin_sub, oBin_eql, oBin_neq, oBin_lss, oBin_leq, oBin_gtr, oBin_geq, oUn_not, oPick_true, oPick_false, oExtract_0, oExtract_1, oExtract_2, oMin_eq, oMax_eq, oFieldAddr_eq, oConvInt_i64, oBin_rem, oBuildSlice_11, oBinAgg_eql2, oBinAgg_neq2, oBuildSlice_1, oBuild_2, oBuildSlice_2, chk_zero, chk_nil, bumpH_zero, alcO_some, Bool.not_true, Bool.not_false, Option.getD_some, Option.getD_none, Option.isSome_some, Option.isSome_none], by simp only [seqO_eq, thenO_nor, thenO_ret, thenO_ex, gtO_some, bndO_ok, get_set_of, cndX_tmp, ifB_true, ifB_false, ifB_pos, ifB_neg, blkO_eq, blkX_nor, blkX_ret, blkX_ex, Nat.reduceEqDiff, Nat.zero_ne_one, Nat.one_ne_zero, reduceCtorEq, ↓reduceIte, oBin_add, oBin_sub, oBin_eql, oBin_neq, oBin_lss, oBin_leq, oBin_gtr, oBin_geq, oUn_not, oPick_true, oPick_false, oExtract_0, oExtract_1, oExtract_2, oMin_eq, oMax_eq, oFieldAddr_eq, oConvInt_i64, oBin_rem, oBuildSlice_11, oBinAgg_eql2, oBinAgg_neq2, oBuildSlice_1, oBuild_2, oBuildSlice_2, chk_zero, chk_nil, bumpH_zero, alcO_some, Bool.not_true, Bool.not_false, Option.getD_some, Option.getD_none, Option.isSome_some, Option.isSome_none]; rfl, rfl, by simp⟩
      · rintro k' fr h' ⟨k, hkk, f0, f1, f5, rfl, htk⟩
        by_cases hk : k < l.length
        · obtain ⟨i, q, e1, hib, e2⟩ := Sl.items s hk
          obtain ⟨j, p, e3, hjb, e4⟩ := Sl.items t (k := k) (by omega)
          have e2' := (e2 h' rfl).2.2
          have e4' := (e4 h' rfl).2.2
          by_cases hx : l[k] = m[k]
          · rw [hx] at e2'
            simp (disch := omega) only [seqO_eq, thenO_nor, thenO_ret, thenO_ex, gtO_some, bndO_ok, get_set_of, cndX_tmp, ifB_true, ifB_false, ifB_pos, ifB_neg, blkO_eq, blkX_nor, blkX_ret, blkX_ex, Nat.reduceEqDiff, Nat.zero_ne_one, Nat.one_ne_zero, reduceCtorEq, ↓reduceIte, oBin_add, oBin_sub, oBin_eql, oBin_neq, oBin_lss, oBin_leq, oBin_gtr, oBin_geq, oUn_not, oPick_true, oPick_false, oExtract_0, oExtract_1, oExtract_2, oMin_eq, oMax_eq, oFieldAddr_eq, oConvInt_i64, oBin_rem, oBuildSlice_11, oBinAgg_eql2, oBinAgg_neq2, oBuildSlice_1, oBuild_2, oBuildSlice_2, chk_zero, chk_nil, bumpH_zero, alcO_some, Bool.not_true, Bool.not_false, Option.getD_some, Option.getD_none, Option.isSome_some, Option.isSome_none, and_self, not_true_eq_false, decide_false, Tryb12_4, Tryr12_4, f5, f0, s.length, Tryr12_6, e1, e2', f1, e3, e4', Tryr12_5]
            refine ⟨k' - 1, by omega, k + 1, by omega, ?_, ?_, ?_, rfl, ?_⟩
            · simp only [seqO_eq, thenO_nor, thenO_ret, thenO_ex, gtO_some, bndO_ok, get_set_of, cndX_tmp, ifB_true, ifB_false, ifB_pos, ifB_neg, blkO_eq, blkX_nor, blkX_ret, blkX_ex, Nat.reduceEqDiff, Nat.zero_ne_one, Nat.one_ne_zero, reduceCtorEq, ↓reduceIte, oBin_add, oBin_sub, oBin_eql, oBin_neq, oBin_lss, oBin_leq, oBin_gtr, oBin_geq, oUn_not, oPick_true, oPick_false, oExtract_0, oExtract_1, oExtract_2, oMin_eq, oMax_eq, oFieldAddr_eq, oConvInt_i64, oBin_rem, oBuildSlice_11, oBinAgg_eql2, oBinAgg_neq2, oBuildSlice_1, oBuild_2, oBuildSlice_2, chk_zero, chk_nil, bumpH_zero, alcO_some, Bool.not_true, Bool.not_false, Option.getD_some, Option.getD_none, Option.isSome_some, Option.isSome_none, f0]
            · simp only [seqO_eq, thenO_nor, thenO_ret, thenO_ex, gtO_some, bndO_ok, get_set_of, cndX_tmp, ifB_true, ifB_false, ifB_pos, ifB_neg, blkO_eq, blkX_nor, blkX_ret, blkX_ex, Nat.reduceEqDiff, Nat.zero_ne_one, Nat.one_ne_zero, reduceCtorEq, ↓reduceIte, oBin_add, oBin_sub, oBin_eql, oBin_neq, oBin_lss, oBin_leq, oBin_gtr, oBin_geq, oUn_not, oPick_true, oPick_false, oExtract_0, oExtract_1, oExtract_2, oMin_eq, oMax_eq, oFieldAddr_eq, oConvInt_i64, oBin_rem, oBuildSlice_11, oBinAgg_eql2, oBinAgg_neq2, oBuildSlice_1, oBuild_2, oBuildSlice_2, chk_zero, chk_nil, bumpH_zero, alcO_some, Bool.not_true, Bool.not_false, Option.getD_some, Option.getD_none, Option.isSome_some, Option.isSome_none, f1]
            · simp only [seqO_eq, thenO_nor, thenO_ret, thenO_ex, gtO_some, bndO_ok, get_set_of, cndX_tmp, ifB_true, ifB_false, ifB_pos, ifB_neg, blkO_eq, blkX_nor, blkX_ret, blkX_ex, Nat.reduceEqDiff, Nat.zero_ne_one, Nat.one_ne_zero, reduceCtorEq, ↓reduceIte, oBin_add, oBin_sub, oBin_eql, oBin_neq, oBin_lss, oBin_leq, oBin_gtr, oBin_geq, oUn_not, oPick_true, oPick_false, oExtract_0, oExtract_1, oExtract_2, oMin_eq, oMax_eq, oFieldAddr_eq, oConvInt_i64, oBin_rem, oBuildSlice_11, oBinAgg_eql2, oBinAgg_neq2, oBuildSlice_1, oBuild_2, oBuildSlice_2, chk_zero, chk_nil, bumpH_zero, alcO_some, Bool.not_true, Bool.not_false, Option.getD_some, Option.getD_none, Option.isSome_some, Option.isSome_none]; rfl
            · rw [List.take_add_one, List.take_add_one, htk, List.getElem?_eq_getElem hk, List.getElem?_eq_getElem (by omega), hx]
          · have hfa : ¬ (l[k].1 = m[k].1 ∧ l[k].2 = m[k].2) := fun h => hx (Prod.ext h.1 h.2)
            simp (disch := first | omega | assumption) only [seqO_eq, thenO_nor, thenO_ret, thenO_ex, gtO_some, bndO_ok, get_set_of, cndX_tmp, ifB_true, ifB_false, ifB_pos, ifB_neg, blkO_eq, blkX_nor, blkX_ret, blkX_ex, Nat.reduceEqDiff, Nat.zero_ne_one, Nat.one_ne_zero, reduceCtorEq, ↓reduceIte, oBin_add, oBin_sub, oBin_eql, oBin_neq, oBin_lss, oBin_leq, oBin_gtr, oBin_geq, oUn_not, oPick_true, oPick_false, oExtract_0, oExtract_1, oExtract_2, oMin_eq, oMax_eq, oFieldAddr_eq, oConvInt_i64, oBin_rem, oBuildSlice_11, oBinAgg_eql2, oBinAgg_neq2, oBuildSlice_1, oBuild_2, oBuildSlice_2, chk_zero, chk_nil, bumpH_zero, alcO_some, Bool.not_true, Bool.not_false, Option.getD_some, Option.getD_none, Option.isSome_some, Option.isSome_none, Tryb12_4, Tryr12_4, f5, f0, s.length, Tryr12_6, e1, e2', f1, e3, e4', Tryr12_7]
            exact ⟨by simp only [seqO_eq, thenO_nor, thenO_ret, thenO_ex, gtO_some, bndO_ok, get_set_of, cndX_tmp, ifB_true, ifB_false, ifB_pos, ifB_neg, blkO_eq, blkX_nor, blkX_ret, blkX_ex, Nat.reduceEqDiff, Nat.zero_ne_one, Nat.one_ne_zero, reduceCtorEq, ↓reduceIte, oBin_add, oBin_sub, oBin_eql, oBin_neq, oBin_lss, oBin_leq, oBin_gtr, oBin_geq, oUn_not, oPick_true, oPick_false, oExtract_0, oExtract_1, oExtract_2, oMin_eq, oMax_eq, oFieldAddr_eq, oConvInt_i64, oBin_rem, oBuildSlice_11, oBinAgg_eql2, oBinAgg_neq2, oBuildSlice_1, oBuild_2, oBuildSlice_2, chk_zero, chk_nil, bumpH_zero, alcO_some, Bool.not_true, Bool.not_false, Option.getD_some, Option.getD_none, Option.isSome_some, Option.isSome_none], rfl, fun e => hx (by subst e; rfl)⟩
        · have hk' : k = l.length := by omega
          subst hk'
          simp (disch := omega) only [seqO_eq, thenO_nor, thenO_ret, thenO_ex, gtO_some, bndO_ok, get_set_of, cndX_tmp, ifB_true, ifB_false, ifB_pos, ifB_neg, blkO_eq, blkX_nor, blkX_ret, blkX_ex, Nat.reduceEqDiff, Nat.zero_ne_one, Nat.one_ne_zero, reduceCtorEq, ↓reduceIte, oBin_add, oBin_sub, oBin_eql, oBin_neq, oBin_lss, oBin_leq, oBin_gtr, oBin_geq, oUn_not, oPick_true, oPick_false, oExtract_0, oExtract_1, oExtract_2, oMin_eq, oMax_eq, oFieldAddr_eq, oConvInt_i64, oBin_rem, oBuildSlice_11, oBinAgg_eql2, oBinAgg_neq2, oBuildSlice_1, oBuild_2, oBuildSlice_2, chk_zero, chk_nil, bumpH_zero, alcO_some, Bool.not_true, Bool.not_false, Option.getD_some, Option.getD_none, Option.isSome_some, Option.isSome_none, Tryb12_4, Tryr12_4, f5, f0, s.length]
          rw [List.take_length, hn, List.take_length] at htk
          exact ⟨rfl, rfl, htk⟩
      · rintro fr h' ⟨rfl, rfl⟩
        simp only [seqO_eq, thenO_nor, thenO_ret, thenO_ex, gtO_some, bndO_ok, get_set_of, cndX_tmp, ifB_true, ifB_false, ifB_pos, ifB_neg, blkO_eq, blkX_nor, blkX_ret, blkX_ex, Nat.reduceEqDiff, Nat.zero_ne_one, Nat.one_ne_zero, reduceCtorEq, ↓reduceIte, oBin_add, oBin_sub, oBin_eql, oBin_neq, oBin_lss, oBin_leq, oBin_gtr, oBin_geq, oUn_not, oPick_true, oPick_false, oExtract_0, oExtract_1, oExtract_2, oMin_eq, oMax_eq, oFieldAddr_eq, oConvInt_i64, oBin_rem, oBuildSlice_11, oBinAgg_eql2, oBinAgg_neq2, oBuildSlice_1, oBuild_2, oBuildSlice_2, chk_zero, chk_nil, bumpH_zero, alcO_some, Bool.not_true, Bool.not_false, Option.getD_some, Option.getD_none, Option.isSome_some, Option.isSome_none, Tryr12_8]
        exact Tells.ret (by simp only [resK, get_set_of, seqO_eq, thenO_nor, thenO_ret, thenO_ex, gtO_some, bndO_ok, get_set_of, cndX_tmp, ifB_true, ifB_false, ifB_pos, ifB_neg, blkO_eq, blkX_nor, blkX_ret, blkX_ex, Nat.reduceEqDiff, Nat.zero_ne_one, Nat.one_ne_zero, reduceCtorEq, ↓reduceIte, oBin_add, oBin_sub, oBin_eql, oBin_neq, oBin_lss, oBin_leq, oBin_gtr, oBin_geq, oUn_not, oPick_true, oPick_false, oExtract_0, oExtract_1, oExtract_2, oMin_eq, oMax_eq, oFieldAddr_eq, oConvInt_i64, oBin_rem, oBuildSlice_11, oBinAgg_eql2, oBinAgg_neq2, oBuildSlice_1, oBuild_2, oBuildSlice_2, chk_zero, chk_nil, bumpH_zero, alcO_some, Bool.not_true, Bool.not_false, Option.getD_some, Option.getD_none, Option.isSome_some, Option.isSome_none, tupR]; rfl) ⟨by simp, rfl⟩
      · rintro fr h' ⟨f4, rfl, hne⟩
        exact Tells.ret (by simp only [resK, f4, tupR]; rfl) ⟨by rw [decide_eq_false hne], rfl⟩
    · simp (disch := omega) only [seqO_eq, thenO_nor, thenO_ret, thenO_ex, gtO_some, bndO_ok, get_set_of, cndX_tmp, ifB_true, ifB_false, ifB_pos, ifB_neg, blkO_eq, blkX_nor, blkX_ret, blkX_ex, Nat.reduceEqDiff, Nat.zero_ne_one, Nat.one_ne_zero, reduceCtorEq, ↓reduceIte, oBin_add, oBin_sub, oBin_eql, oBin_neq, oBin_lss, oBin_leq, oBin_gtr, oBin_geq, oUn_not, oPick_true, oPick_false, oExtract_0, oExtract_1, oExtract_2, oMin_eq, oMax_eq, oFieldAddr_eq, oConvInt_i64, oBin_rem, oBuildSlice_11, oBinAgg_eql2, oBinAgg_neq2, oBuildSlice_1, oBuild_2, oBuildSlice_2, chk_zero, chk_nil, bumpH_zero, alcO_some, Bool.not_true, Bool.not_false, Option.getD_some, Option.getD_none, Option.isSome_some, Option.isSome_none, Tryd12, Tryr12_0, Tryr12_1, s.length, t.length, Tryr12_2]
      exact Tells.ret (by simp only [resK, get_set_of, seqO_eq, thenO_nor, thenO_ret, thenO_ex, gtO_some, bndO_ok, get_set_of, cndX_tmp, ifB_true, ifB_false, ifB_pos, ifB_neg, blkO_eq, blkX_nor, blkX_ret, blkX_ex, Nat.reduceEqDiff, Nat.zero_ne_one, Nat.one_ne_zero, reduceCtorEq, ↓reduceIte, oBin_add, oBin_sub, oBin_eql, oBin_neq, oBin_lss, oBin_leq, oBin_gtr, oBin_geq, oUn_not, oPick_true, oPick_false, oExtract_0, oExtract_1, oExtract_2, oMin_eq, oMax_eq, oFieldAddr_eq, oConvInt_i64, oBin_rem, oBuildSlice_11, oBinAgg_eql2, oBinAgg_neq2, oBuildSlice_1, oBuild_2, oBuildSlice_2, chk_zero, chk_nil, bumpH_zero, alcO_some, Bool.not_true, Bool.not_false, Option.getD_some, Option.getD_none, Option.isSome_some, Option.isSome_none, tupR]; rfl) ⟨by rw [decide_eq_false (fun e => hn (by rw [e]))], rfl⟩
  obtain ⟨r, h', e, rfl, rfl⟩ := this
  exact e
end Go.Proofs.Ytmlbnkojodkieaa

noncomputable section
namespace Go.Proofs.Ytmlbnkojodkieaa
open Go Go.Proofs Go.Vm
set_option linter.unusedVariables false
set_option maxRecDepth 100000
set_option linter.unusedSimpArgs false
open Go.Shelf in
def Try.lays21_ren : Ren := ⟨fun x => match x with | 21 => 21 | 27 => 23 | 28 => 24 | 35 => 25 | 39 => 26 | n => n, fun x => match x with | 22 => 23 | 3 => 3 | 4 => 4 | 0 => 0 | n => n, fun n => n⟩
open Go.Shelf in
theorem Try.lays21 : Lays2.n21 Try.prog Try.lays21_ren := { mixed := Trymix, f21 := by kernel_rfl, f27 := by kernel_rfl, f28 := by kernel_rfl, f35 := by kernel_rfl, f39 := by kernel_rfl, t0 := by kernel_rfl, a0 := fun w => by kernel_rfl, z0 := fun w => by kernel_rfl, v0 := fun w => by kernel_rfl, t3 := by kernel_rfl, a3 := fun w => by kernel_rfl, z3 := fun w => by kernel_rfl, v3 := fun w => by kernel_rfl, t4 := by kernel_rfl, a4 := fun w => by kernel_rfl, z4 := fun w => by kernel_rfl, v4 := fun w => by kernel_rfl, t22 := by kernel_rfl, a22 := fun w => by kernel_rfl, z22 := fun w => by kernel_rfl, v22 := fun w => by kernel_rfl, i3 := by kernel_rfl }
def TryF21 : Fun := insF
theorem Tryc21 : CallOk Try.prog 0 21 TryF21 := insF_ok (c := codeOf Try.f21) Try.lays21 Try.func21 (by kernel_rfl) (by kernel_rfl)
/-! 13: pillarbox/diff.Apply -/
def Tryk13 : Nat → Bool := fun t => memN t [0, 1, 2, 6, 7, 9, 11, 12, 13, 14, 15, 21, 27, 28, 29, 30]
def Tryr13_0 (fr : F) (h : Hp) : Out :=
  Out.nor (T.set (some .nils) (Pos.of 6) fr) h
def Tryr13_1 (fr : F) (h : Hp) : Out :=
  Out.nor (T.set (some .nils) (Pos.of 7) fr) h
def Tryr13_2 (fr : F) (h : Hp) : Out :=
  gtO (T.get fr (Pos.of 0)) fun v0 => bndO (oLenK 2 v0 h) fun v13 h1 =>
  Out.nor (T.set (some (.int .i64 0)) (Pos.of 14) (T.set (some v13) (Pos.of 13) (T.set (some v0) (Pos.of 12) fr))) h1
def Tryr13_3 (fr : F) (h : Hp) : Out :=
  gtO (T.get fr (Pos.of 14)) fun v14 => gtO (T.get fr (Pos.of 13)) fun v13 => bndO (oBin .lss .none v14 v13 h) fun v15 h0 =>
  Out.nor (T.set (some v15) (Pos.of 15) fr) h0
def Tryr13_4 (fr : F) (h : Hp) : Out :=
  gtO (T.get fr (Pos.of 12)) fun v12 => gtO (T.get fr (Pos.of 14)) fun v14 => bndO (oIdxS 1 v12 v14 h) fun v16 h0 =>
  bndO (oLoad1 v16 h0) fun v17 h1 =>
  Out.nor (T.set (some v17) (Pos.of 9) fr) h1
def Tryr13_5 (fr : F) (h : Hp) : Out :=
  gtO (T.get fr (Pos.of 1)) fun v1 => gtO (T.get fr (Pos.of 9)) fun v9 => bndO (TryF20 [v1, v9] h) fun v20 h2 =>
  bndO (oUn .not v20 h2) fun v21 h3 =>
  Out.nor (T.set (some v21) (Pos.of 21) fr) h3
def Tryr13_6 (fr : F) (h : Hp) : Out :=
  gtO (T.get fr (Pos.of 7)) fun v7 => gtO (T.get fr (Pos.of 9)) fun v9 => bndO (oBuildSlice [(.int .i64 0)] 1 [(0, 1, v9)] h) fun v24 h2 =>
  bndO (oAppend 1 8 v7 v24 h2) fun v25 h3 =>
  Out.nor (T.set (some v25) (Pos.of 7) fr) h3
def Tryr13_7 (fr : F) (h : Hp) : Out :=
  gtO (T.get fr (Pos.of 14)) fun v14 => bndO (oBin .add .none v14 (.int .i64 1) h) fun v26 h0 =>
  Out.nor (T.set (some v26) (Pos.of 14) fr) h0
def Tryr13_8 (fr : F) (h : Hp) : Out :=
  gtO (T.get fr (Pos.of 2)) fun v2 => bndO (oLenK 2 v2 h) fun v28 h1 =>
  Out.nor (T.set (some (.int .i64 0)) (Pos.of 29) (T.set (some v28) (Pos.of 28) (T.set (some v2) (Pos.of 27) fr))) h1
def Tryr13_9 (fr : F) (h : Hp) : Out :=
  gtO (T.get fr (Pos.of 29)) fun v29 => gtO (T.get fr (Pos.of 28)) fun v28 => bndO (oBin .lss .none v29 v28 h) fun v30 h0 =>
  Out.nor (T.set (some v30) (Pos.of 30) fr) h0
def Tryr13_10 (fr : F) (h : Hp) : Out :=
  gtO (T.get fr (Pos.of 27)) fun v27 => gtO (T.get fr (Pos.of 29)) fun v29 => bndO (oIdxS 2 v27 v29 h) fun v31 h0 =>
  bndO (oLoadN 2 v31 h0) fun v32 h1 =>
  bndO (oNew [(.int .i64 0), (.int .i64 0)] h1) fun v11 h2 =>
  bndO (oStore 2 v11 v32 h2) fun _u3 h3 =>
  Out.nor (T.set (some v11) (Pos.of 11) fr) h3
def Tryr13_11 (fr : F) (h : Hp) : Out :=
  gtO (T.get fr (Pos.of 7)) fun v7 => gtO (T.get fr (Pos.of 11)) fun v11 => bndO (oFieldAddr 1 v11 h) fun v34 h1 =>
  bndO (oLoad1 v34 h1) fun v35 h2 =>
  bndO (oLenK 2 v7 h2) fun v37 h4 =>
  bndO (oMin v35 v37 h4) fun v38 h5 =>
  bndO (oMax (.int .i64 0) v38 h5) fun v39 h6 =>
  bndO (oFieldAddr 0 v11 h6) fun v40 h7 =>
  bndO (oLoad1 v40 h7) fun v41 h8 =>
  bndO (oBuildSlice [(.int .i64 0)] 1 [(0, 1, v41)] h8) fun v42 h9 =>
  bndO (TryF21 [v7, v39, v42] h9) fun v43 h10 =>
  Out.nor (T.set (some v43) (Pos.of 7) fr) h10
def Tryr13_12 (fr : F) (h : Hp) : Out :=
  gtO (T.get fr (Pos.of 29)) fun v29 => bndO (oBin .add .none v29 (.int .i64 1) h) fun v44 h0 =>
  Out.nor (T.set (some v44) (Pos.of 29) fr) h0
def Tryr13_13 (fr : F) (h : Hp) : Out :=
  gtO (T.get fr (Pos.of 7)) fun v7 => Out.nor (T.set (some v7) (Pos.of 6) fr) h
def Tryb13_3 : F → Hp → Out := (seqO Tryr13_3 (seqO (cndX (.tmp 15) Out.nor (Out.ex 0)) (seqO (blkO 1 (seqO Tryr13_4 (seqO Tryr13_5 (cndX (.tmp 21) Tryr13_6 Out.nor)))) Tryr13_7)))
def Tryb13_9 : F → Hp → Out := (seqO Tryr13_9 (seqO (cndX (.tmp 30) Out.nor (Out.ex 2)) (seqO (blkO 3 (seqO Tryr13_10 Tryr13_11)) Tryr13_12)))
def Tryd13 : F → Hp → Out := (seqO Tryr13_0 (seqO Tryr13_1 (seqO (seqO Tryr13_2 (blkO 0 (loopO Tryb13_3 lf))) (seqO (seqO Tryr13_8 (blkO 2 (loopO Tryb13_9 lf))) (seqO Tryr13_13 Out.ret)))))
def Trye13 : FuncId → Option Fun := fun f => match Nat.beq f 20 with | true => some TryF20 | false => match Nat.beq f 21 with | true => some TryF21 | false => none
def Tryp13 : Plans := fun id => none
def TryF13 : Fun := funX Try.prog 0 Tryk13 Trye13 Tryp13 lf Try.f13
theorem TryD13 : denX Try.prog 0 Try.f13.ntmps Tryk13 Trye13 Tryp13 lf (codeOf Try.f13) = Tryd13 := by kernel_rfl
theorem TryF13_eq (x0 x1 x2 : V) (h : Hp) : TryF13 [x0, x1, x2] h = outR Try.prog [.tmp 6] (Tryd13 (T.set (some x2) (Pos.of 2) (T.set (some x1) (Pos.of 1) (T.set (some x0) (Pos.of 0) T.nil))) h) := funX_eq (by kernel_rfl) TryD13 (by kernel_rfl) h
theorem Tryc13 : CallOk Try.prog 0 13 TryF13 := funX_ok Trymix (callsOk_cons Tryc20 (callsOk_cons Tryc21 callsOk_0)) Try.func13 (by kernel_rfl)

/-! 4: pillarbox/pillarboxlaw20.DiffAll -/
def Tryk4 : Nat → Bool := fun t => memN t [0, 1, 2, 3, 8, 9, 10, 11, 12, 30]
def Tryr4_0 (fr : F) (h : Hp) : Out :=
  Out.nor (T.set (some (.bool false)) (Pos.of 8) fr) h
def Tryr4_1 (fr : F) (h : Hp) : Out :=
  gtO (T.get fr (Pos.of 0)) fun v0 => bndO (oLenK 2 v0 h) fun v14 h1 =>
  bndO (oBin .gtr .none v14 (.int .i64 100) h1) fun v15 h2 =>
  ifB v15 (Out.nor (T.set (some (.bool true)) (Pos.of 30) fr) h2) (gtO (T.get fr (Pos.of 1)) fun v1 => bndO (oLenK 2 v1 h2) fun v18 h5 =>
  bndO (oBin .gtr .none v18 (.int .i64 100) h5) fun v19 h6 =>
  ifB v19 (Out.nor (T.set (some (.bool true)) (Pos.of 30) fr) h6) (gtO (T.get fr (Pos.of 2)) fun v2 => bndO (oLenK 2 v2 h6) fun v23 h10 =>
  bndO (oBin .gtr .none v23 (.int .i64 100) h10) fun v24 h11 =>
  ifB v24 (Out.nor (T.set (some (.bool true)) (Pos.of 30) fr) h11) (gtO (T.get fr (Pos.of 3)) fun v3 => bndO (oLenK 2 v3 h11) fun v28 h15 =>
  bndO (oBin .gtr .none v28 (.int .i64 100) h15) fun v29 h16 =>
  Out.nor (T.set (some v29) (Pos.of 30) fr) h16)))
def Tryr4_2 (fr : F) (h : Hp) : Out :=
  bndO (TryF10 [] h) fun v31 h0 =>
  Out.nor (T.set (some v31) (Pos.of 8) fr) h0
def Tryr4_3 (fr : F) (h : Hp) : Out :=
  gtO (T.get fr (Pos.of 0)) fun v0 => gtO (T.get fr (Pos.of 1)) fun v1 => bndO (TryF8 [v0, v1] h) fun v35 h2 =>
  bndO (oExtract 0 v35 h2) fun v36 h4 =>
  bndO (oExtract 1 v35 h4) fun v37 h5 =>
  Out.nor (T.set (some v37) (Pos.of 10) (T.set (some v36) (Pos.of 9) fr)) h5
def Tryr4_4 (fr : F) (h : Hp) : Out :=
  gtO (T.get fr (Pos.of 0)) fun v0 => gtO (T.get fr (Pos.of 1)) fun v1 => bndO (TryF11 [v0, v1] h) fun v41 h2 =>
  bndO (oExtract 0 v41 h2) fun v42 h4 =>
  bndO (oExtract 1 v41 h4) fun v43 h5 =>
  Out.nor (T.set (some v43) (Pos.of 12) (T.set (some v42) (Pos.of 11) fr)) h5
def Tryr4_5 (fr : F) (h : Hp) : Out :=
  gtO (T.get fr (Pos.of 9)) fun v9 => gtO (T.get fr (Pos.of 11)) fun v11 => bndO (TryF9 [v9, v11] h) fun v46 h2 =>
  ifB v46 (gtO (T.get fr (Pos.of 10)) fun v10 => gtO (T.get fr (Pos.of 12)) fun v12 => bndO (TryF12 [v10, v12] h2) fun v50 h6 =>
  ifB v50 (gtO (T.get fr (Pos.of 0)) fun v0 => gtO (T.get fr (Pos.of 2)) fun v2 => gtO (T.get fr (Pos.of 3)) fun v3 => bndO (TryF13 [v0, v2, v3] h6) fun v56 h12 =>
  bndO (TryF14 [v0, v2, v3] h12) fun v60 h16 =>
  bndO (TryF9 [v56, v60] h16) fun v61 h17 =>
  ifB v61 (bndO (TryF10 [] h17) fun v64 h20 =>
  Out.nor (T.set (some v64) (Pos.of 8) fr) h20) (Out.nor (T.set (some (.bool false)) (Pos.of 8) fr) h17)) (Out.nor (T.set (some (.bool false)) (Pos.of 8) fr) h6)) (Out.nor (T.set (some (.bool false)) (Pos.of 8) fr) h2)
def Tryd4 : F → Hp → Out := (seqO Tryr4_0 (seqO (seqO Tryr4_1 (cndX (.tmp 30) (seqO Tryr4_2 Out.ret) Out.nor)) (seqO Tryr4_3 (seqO Tryr4_4 (seqO Tryr4_5 Out.ret)))))
def Trye4 : FuncId → Option Fun := fun f => match Nat.beq f 10 with | true => some TryF10 | false => match Nat.beq f 8 with | true => some TryF8 | false => match Nat.beq f 11 with | true => some TryF11 | false => match Nat.beq f 9 with | true => some TryF9 | false => match Nat.beq f 12 with | true => some TryF12 | false => match Nat.beq f 13 with | true => some TryF13 | false => match Nat.beq f 14 with | true => some TryF14 | false => none
def Tryp4 : Plans := fun id => none
def TryF4 : Fun := funX Try.prog 0 Tryk4 Trye4 Tryp4 lf Try.f4
theorem TryD4 : denX Try.prog 0 Try.f4.ntmps Tryk4 Trye4 Tryp4 lf (codeOf Try.f4) = Tryd4 := by kernel_rfl
theorem TryF4_eq (x0 x1 x2 x3 : V) (h : Hp) : TryF4 [x0, x1, x2, x3] h = outR Try.prog [.tmp 8] (Tryd4 (T.set (some x3) (Pos.of 3) (T.set (some x2) (Pos.of 2) (T.set (some x1) (Pos.of 1) (T.set (some x0) (Pos.of 0) T.nil)))) h) := funX_eq (by kernel_rfl) TryD4 (by kernel_rfl) h
theorem Tryc4 : CallOk Try.prog 0 4 TryF4 := funX_ok Trymix (callsOk_cons Tryc10 (callsOk_cons Tryc8 (callsOk_cons Tryc11 (callsOk_cons Tryc9 (callsOk_cons Tryc12 (callsOk_cons Tryc13 (callsOk_cons Tryc14 callsOk_0))))))) Try.func4 (by kernel_rfl)

/-! 5: pillarbox/pillarboxlaw20.DiffMakes -/
def Tryk5 : Nat → Bool := fun t => memN t [0, 1, 4, 5, 6, 7, 8, 9, 10, 11, 19, 40, 74]
def Tryr5_0 (fr : F) (h : Hp) : Out :=
  Out.nor (T.set (some (.bool false)) (Pos.of 4) fr) h
def Tryr5_1 (fr : F) (h : Hp) : Out :=
  gtO (T.get fr (Pos.of 0)) fun v0 => bndO (oLenK 2 v0 h) fun v13 h1 =>
  bndO (oBin .gtr .none v13 (.int .i64 100) h1) fun v14 h2 =>
  ifB v14 (Out.nor (T.set (some (.bool true)) (Pos.of 19) fr) h2) (gtO (T.get fr (Pos.of 1)) fun v1 => bndO (oLenK 2 v1 h2) fun v17 h5 =>
  bndO (oBin .gtr .none v17 (.int .i64 100) h5) fun v18 h6 =>
  Out.nor (T.set (some v18) (Pos.of 19) fr) h6)
def Tryr5_2 (fr : F) (h : Hp) : Out :=
  bndO (TryF10 [] h) fun v20 h0 =>
  Out.nor (T.set (some v20) (Pos.of 4) fr) h0
def Tryr5_3 (fr : F) (h : Hp) : Out :=
  gtO (T.get fr (Pos.of 0)) fun v0 => bndO (TryF15 [v0] h) fun v22 h1 =>
  gtO (T.get fr (Pos.of 1)) fun v1 => bndO (TryF15 [v1] h1) fun v24 h3 =>
  Out.nor (T.set (some v24) (Pos.of 6) (T.set (some v22) (Pos.of 5) fr)) h3
def Tryr5_4 (fr : F) (h : Hp) : Out :=
  gtO (T.get fr (Pos.of 5)) fun v5 => gtO (T.get fr (Pos.of 6)) fun v6 => bndO (TryF8 [v5, v6] h) fun v28 h2 =>
  bndO (oExtract 0 v28 h2) fun v29 h4 =>
  bndO (oExtract 1 v28 h4) fun v30 h5 =>
  Out.nor (T.set (some v30) (Pos.of 8) (T.set (some v29) (Pos.of 7) fr)) h5
def Tryr5_5 (fr : F) (h : Hp) : Out :=
  gtO (T.get fr (Pos.of 5)) fun v5 => bndO (TryF8 [v5, v5] h) fun v34 h2 =>
  bndO (oExtract 0 v34 h2) fun v35 h4 =>
  bndO (oExtract 1 v34 h4) fun v36 h5 =>
  Out.nor (T.set (some v36) (Pos.of 10) (T.set (some v35) (Pos.of 9) fr)) h5
def Tryr5_6 (fr : F) (h : Hp) : Out :=
  Out.nor (T.set (some (.int .i64 0)) (Pos.of 11) fr) h
def Tryr5_7 (fr : F) (h : Hp) : Out :=
  gtO (T.get fr (Pos.of 11)) fun v11 => gtO (T.get fr (Pos.of 8)) fun v8 => bndO (oLenK 2 v8 h) fun v39 h2 =>
  bndO (oBin .lss .none v11 v39 h2) fun v40 h3 =>
  Out.nor (T.set (some v40) (Pos.of 40) fr) h3
def Tryr5_9 (fr : F) (h : Hp) : Out :=
  gtO (T.get fr (Pos.of 8)) fun w0_8 => gtO (T.get fr (Pos.of 11)) fun w1_11 => bndO (oIdxS 2 w0_8 w1_11 (bumpH 0 h)) fun v45 _ =>
  bndO (oFieldAddr 1 v45 (bumpH 0 h)) fun v46 _ =>
  bndO (oLoad1 v46 (bumpH 0 h)) fun v47 _ =>
  bndO (oBin .lss .none v47 (.int .i64 0) (bumpH 0 h)) fun v48 _ =>
  ifB v48 (Out.nor (T.set (some (.bool true)) (Pos.of 74) fr) (bumpH 0 h)) (gtO (T.get fr (Pos.of 8)) fun w7_8 => gtO (T.get fr (Pos.of 11)) fun w8_11 => bndO (oIdxS 2 w7_8 w8_11 (bumpH 0 h)) fun v52 _ =>
  bndO (oFieldAddr 1 v52 (bumpH 0 h)) fun v53 _ =>
  bndO (oLoad1 v53 (bumpH 0 h)) fun v54 _ =>
  gtO (T.get fr (Pos.of 6)) fun w12_6 => bndO (oLenK 2 w12_6 (bumpH 0 h)) fun v56 _ =>
  bndO (oBin .geq .none v54 v56 (bumpH 0 h)) fun v57 _ =>
  ifB v57 (Out.nor (T.set (some (.bool true)) (Pos.of 74) fr) (bumpH 0 h)) (gtO (T.get fr (Pos.of 6)) fun w17_6 => gtO (T.get fr (Pos.of 8)) fun w18_8 => gtO (T.get fr (Pos.of 11)) fun w19_11 => bndO (oIdxS 2 w18_8 w19_11 (bumpH 0 h)) fun v63 _ =>
  bndO (oFieldAddr 1 v63 (bumpH 0 h)) fun v64 _ =>
  bndO (oLoad1 v64 (bumpH 0 h)) fun v65 _ =>
  bndO (oIdxS 1 w17_6 v65 (bumpH 0 h)) fun v66 _ =>
  bndO (oLoad1 v66 (bumpH 0 h)) fun v67 _ =>
  gtO (T.get fr (Pos.of 8)) fun w25_8 => gtO (T.get fr (Pos.of 11)) fun w26_11 => bndO (oIdxS 2 w25_8 w26_11 (bumpH 0 h)) fun v70 _ =>
  bndO (oFieldAddr 0 v70 (bumpH 0 h)) fun v71 _ =>
  bndO (oLoad1 v71 (bumpH 0 h)) fun v72 _ =>
  bndO (oBin .neq .none v67 v72 (bumpH 0 h)) fun v73 _ =>
  Out.nor (T.set (some v73) (Pos.of 74) fr) (bumpH 0 h)))
def Tryr5_10 (fr : F) (h : Hp) : Out :=
  Out.nor (T.set (some (.bool false)) (Pos.of 4) fr) h
def Tryr5_8 (fr : F) (h : Hp) : Out :=
  gtO (T.get fr (Pos.of 11)) fun v11 => bndO (oBin .add .none v11 (.int .i64 1) h) fun v42 h1 =>
  Out.nor (T.set (some v42) (Pos.of 11) fr) h1
def Tryr5_11 (fr : F) (h : Hp) : Out :=
  gtO (T.get fr (Pos.of 5)) fun v5 => gtO (T.get fr (Pos.of 7)) fun v7 => gtO (T.get fr (Pos.of 8)) fun v8 => bndO (TryF13 [v5, v7, v8] h) fun v78 h3 =>
  gtO (T.get fr (Pos.of 6)) fun v6 => bndO (TryF9 [v78, v6] h3) fun v80 h5 =>
  ifB v80 (gtO (T.get fr (Pos.of 9)) fun v9 => bndO (oLenK 2 v9 h5) fun v83 h8 =>
  bndO (oBin .eql .none v83 (.int .i64 0) h8) fun v84 h9 =>
  ifB v84 (gtO (T.get fr (Pos.of 10)) fun v10 => bndO (oLenK 2 v10 h9) fun v88 h13 =>
  bndO (oBin .eql .none v88 (.int .i64 0) h13) fun v89 h14 =>
  ifB v89 (bndO (oLenK 2 v5 h14) fun v93 h18 =>
  bndO (oLenK 2 v7 h18) fun v95 h20 =>
  bndO (oBin .sub .none v93 v95 h20) fun v96 h21 =>
  bndO (oLenK 2 v6 h21) fun v98 h23 =>
  bndO (oLenK 2 v8 h23) fun v100 h25 =>
  bndO (oBin .sub .none v98 v100 h25) fun v101 h26 =>
  bndO (oBin .eql .none v96 v101 h26) fun v102 h27 =>
  ifB v102 (bndO (TryF10 [] h27) fun v105 h30 =>
  Out.nor (T.set (some v105) (Pos.of 4) fr) h30) (Out.nor (T.set (some (.bool false)) (Pos.of 4) fr) h27)) (Out.nor (T.set (some (.bool false)) (Pos.of 4) fr) h14)) (Out.nor (T.set (some (.bool false)) (Pos.of 4) fr) h9)) (Out.nor (T.set (some (.bool false)) (Pos.of 4) fr) h5)
def Tryb5_7 : F → Hp → Out := (seqO (seqO Tryr5_7 (cndX (.tmp 40) Out.nor (Out.ex 0))) (seqO (blkO 1 (seqO Tryr5_9 (cndX (.tmp 74) (seqO Tryr5_10 Out.ret) Out.nor))) Tryr5_8))
def Tryd5 : F → Hp → Out := (seqO Tryr5_0 (seqO (seqO Tryr5_1 (cndX (.tmp 19) (seqO Tryr5_2 Out.ret) Out.nor)) (seqO Tryr5_3 (seqO Tryr5_4 (seqO Tryr5_5 (seqO (seqO Tryr5_6 (blkO 0 (loopO Tryb5_7 lf))) (seqO Tryr5_11 Out.ret)))))))
def Trye5 : FuncId → Option Fun := fun f => match Nat.beq f 10 with | true => some TryF10 | false => match Nat.beq f 15 with | true => some TryF15 | false => match Nat.beq f 8 with | true => some TryF8 | false => match Nat.beq f 13 with | true => some TryF13 | false => match Nat.beq f 9 with | true => some TryF9 | false => none
def Tryp5 : Plans := fun id => match Nat.beq id 9 with | true => some ([0, 0, 3, 7, 15, 31, 63, 127, 127, 511, 1023, 2047, 127, 4223, 16383, 32767, 65535, 131071, 131071, 131071, 917503, 1966079, 4063231, 8388607, 16777215, 131071, 131071, 100794367, 235012095, 503447551, 1073741823, 2147483647], [(0, .pure), (1, .pure), (2, .pure), (3, .pure), (4, .read 0), (5, .pure), (6, .pure), (7, .pure), (8, .pure), (9, .pure), (10, .pure), (11, .read 0), (12, .pure), (13, .pure), (14, .pure), (15, .pure), (16, .pure), (17, .pure), (18, .pure), (19, .pure), (20, .pure), (21, .pure), (22, .read 0), (23, .pure), (24, .read 0), (25, .pure), (26, .pure), (27, .pure), (28, .pure), (29, .read 0), (30, .pure), (31, .pure)]) | false => none
def TryF5 : Fun := funX Try.prog 0 Tryk5 Trye5 Tryp5 lf Try.f5
theorem TryD5 : denX Try.prog 0 Try.f5.ntmps Tryk5 Trye5 Tryp5 lf (codeOf Try.f5) = Tryd5 := by kernel_rfl
theorem TryF5_eq (x0 x1 : V) (h : Hp) : TryF5 [x0, x1] h = outR Try.prog [.tmp 4] (Tryd5 (T.set (some x1) (Pos.of 1) (T.set (some x0) (Pos.of 0) T.nil)) h) := funX_eq (by kernel_rfl) TryD5 (by kernel_rfl) h
theorem Tryc5 : CallOk Try.prog 0 5 TryF5 := funX_ok Trymix (callsOk_cons Tryc10 (callsOk_cons Tryc15 (callsOk_cons Tryc8 (callsOk_cons Tryc13 (callsOk_cons Tryc9 callsOk_0))))) Try.func5 (by kernel_rfl)

/-! 6: pillarbox/pillarboxlaw20.DiffTwice -/
def Tryk6 : Nat → Bool := fun t => memN t [0, 1, 4, 5, 6, 7, 8, 9, 10, 11, 21]
def Tryr6_0 (fr : F) (h : Hp) : Out :=
  Out.nor (T.set (some (.bool false)) (Pos.of 4) fr) h
def Tryr6_1 (fr : F) (h : Hp) : Out :=
  gtO (T.get fr (Pos.of 0)) fun v0 => bndO (TryF15 [v0] h) fun v13 h1 =>
  Out.nor (T.set (some v13) (Pos.of 5) fr) h1
def Tryr6_2 (fr : F) (h : Hp) : Out :=
  gtO (T.get fr (Pos.of 0)) fun v0 => bndO (oLenK 2 v0 h) fun v15 h1 =>
  bndO (oBin .gtr .none v15 (.int .i64 60) h1) fun v16 h2 =>
  ifB v16 (Out.nor (T.set (some (.bool true)) (Pos.of 21) fr) h2) (gtO (T.get fr (Pos.of 5)) fun v5 => bndO (oLenK 2 v5 h2) fun v19 h5 =>
  bndO (oBin .eql .none v19 (.int .i64 0) h5) fun v20 h6 =>
  Out.nor (T.set (some v20) (Pos.of 21) fr) h6)
def Tryr6_3 (fr : F) (h : Hp) : Out :=
  bndO (TryF10 [] h) fun v22 h0 =>
  Out.nor (T.set (some v22) (Pos.of 4) fr) h0
def Tryr6_4 (fr : F) (h : Hp) : Out :=
  alcO (some (.cells true [], fun p => .slice p 0 0 (.kn 0))) fun ob0 mk0 =>
  gtO (T.get fr (Pos.of 5)) fun w1_5 => bndO (oAppend 1 8 (mk0 (Hp.next h)) w1_5 (Hp.put (bumpH 2 h) (Hp.next h) (some ob0))) fun v25 h2 =>
  gtO (T.get fr (Pos.of 5)) fun w3_5 => gtO (T.get fr (Pos.of 1)) fun w4_1 => bndO (oConvInt .i64 w4_1 h2) fun v28 _ =>
  gtO (T.get fr (Pos.of 5)) fun w6_5 => bndO (oLenK 2 w6_5 h2) fun v30 _ =>
  bndO (oBin .rem .none v28 v30 h2) fun v31 _ =>
  bndO (oIdxS 1 w3_5 v31 h2) fun v32 _ =>
  bndO (oLoad1 v32 h2) fun v33 _ => chk (fun h => oLoad1 v32 h) v33 (
  alcO (aBuildSlice [(.int .i64 0)] 1 [(0, 1, v33)]) fun ob11 mk11 =>
  bndO (oAppend 1 8 v25 (mk11 (Pos.succ (Hp.next h))) (Hp.put h2 (Pos.succ (Hp.next h)) (some ob11))) fun v35 h12 =>
  Out.nor (T.set (some v35) (Pos.of 6) fr) h12) 1 [(bumpH 2 h)]
def Tryr6_5 (fr : F) (h : Hp) : Out :=
  gtO (T.get fr (Pos.of 5)) fun v5 => gtO (T.get fr (Pos.of 6)) fun v6 => bndO (TryF8 [v5, v6] h) fun v39 h2 =>
  bndO (oExtract 0 v39 h2) fun v40 h4 =>
  bndO (oExtract 1 v39 h4) fun v41 h5 =>
  Out.nor (T.set (some v41) (Pos.of 8) (T.set (some v40) (Pos.of 7) fr)) h5
def Tryr6_6 (fr : F) (h : Hp) : Out :=
  gtO (T.get fr (Pos.of 6)) fun v6 => gtO (T.get fr (Pos.of 5)) fun v5 => bndO (TryF8 [v6, v5] h) fun v45 h2 =>
  bndO (oExtract 0 v45 h2) fun v46 h4 =>
  bndO (oExtract 1 v45 h4) fun v47 h5 =>
  Out.nor (T.set (some v47) (Pos.of 10) (T.set (some v46) (Pos.of 9) fr)) h5
def Tryr6_7 (fr : F) (h : Hp) : Out :=
  gtO (T.get fr (Pos.of 5)) fun v5 => bndO (oBuild [(.int .i64 0), (.int .i64 0)] [(0, 1, (.int .i64 1000)), (1, 1, (.int .i64 (-5)))] h) fun v49 h1 =>
  bndO (oBuild [(.int .i64 0), (.int .i64 0)] [(0, 1, (.int .i64 2000)), (1, 1, (.int .i64 1099511627776))] h1) fun v50 h2 =>
  bndO (oBuildSlice [(.int .i64 0), (.int .i64 0), (.int .i64 0), (.int .i64 0)] 2 [(0, 2, v49), (2, 2, v50)] h2) fun v51 h3 =>
  bndO (TryF13 [v5, .nils, v51] h3) fun v52 h4 =>
  Out.nor (T.set (some v52) (Pos.of 11) fr) h4
def Tryr6_8 (fr : F) (h : Hp) : Out :=
  gtO (T.get fr (Pos.of 7)) fun v7 => bndO (oLenK 2 v7 h) fun v54 h1 =>
  bndO (oBin .eql .none v54 (.int .i64 0) h1) fun v55 h2 =>
  ifB v55 (gtO (T.get fr (Pos.of 8)) fun v8 => bndO (oLenK 2 v8 h2) fun v58 h5 =>
  bndO (oBin .eql .none v58 (.int .i64 0) h5) fun v59 h6 =>
  ifB v59 (gtO (T.get fr (Pos.of 9)) fun v9 => bndO (oLenK 2 v9 h6) fun v63 h10 =>
  bndO (oBin .eql .none v63 (.int .i64 0) h10) fun v64 h11 =>
  ifB v64 (gtO (T.get fr (Pos.of 10)) fun v10 => bndO (oLenK 2 v10 h11) fun v68 h15 =>
  bndO (oBin .eql .none v68 (.int .i64 0) h15) fun v69 h16 =>
  ifB v69 (gtO (T.get fr (Pos.of 11)) fun v11 => bndO (oLenK 2 v11 h16) fun v73 h20 =>
  gtO (T.get fr (Pos.of 5)) fun v5 => bndO (oLenK 2 v5 h20) fun v75 h22 =>
  bndO (oBin .add .none v75 (.int .i64 2) h22) fun v76 h23 =>
  bndO (oBin .eql .none v73 v76 h23) fun v77 h24 =>
  ifB v77 (bndO (oIdxS 1 v11 (.int .i64 0) h24) fun v81 h28 =>
  bndO (oLoad1 v81 h28) fun v82 h29 =>
  bndO (oBin .eql .none v82 (.int .i64 1000) h29) fun v83 h30 =>
  ifB v83 (bndO (oLenK 2 v11 h30) fun v88 h35 =>
  bndO (oBin .sub .none v88 (.int .i64 1) h35) fun v89 h36 =>
  bndO (oIdxS 1 v11 v89 h36) fun v90 h37 =>
  bndO (oLoad1 v90 h37) fun v91 h38 =>
  bndO (oBin .eql .none v91 (.int .i64 2000) h38) fun v92 h39 =>
  ifB v92 (bndO (oLenK 2 v11 h39) fun v97 h44 =>
  bndO (oBin .sub .none v97 (.int .i64 1) h44) fun v98 h45 =>
  bndO (oSlice 1 v11 (some (.int .i64 1)) (some v98) none h45) fun v99 h46 =>
  bndO (TryF9 [v99, v5] h46) fun v101 h48 =>
  ifB v101 (bndO (TryF10 [] h48) fun v104 h51 =>
  Out.nor (T.set (some v104) (Pos.of 4) fr) h51) (Out.nor (T.set (some (.bool false)) (Pos.of 4) fr) h48)) (Out.nor (T.set (some (.bool false)) (Pos.of 4) fr) h39)) (Out.nor (T.set (some (.bool false)) (Pos.of 4) fr) h30)) (Out.nor (T.set (some (.bool false)) (Pos.of 4) fr) h24)) (Out.nor (T.set (some (.bool false)) (Pos.of 4) fr) h16)) (Out.nor (T.set (some (.bool false)) (Pos.of 4) fr) h11)) (Out.nor (T.set (some (.bool false)) (Pos.of 4) fr) h6)) (Out.nor (T.set (some (.bool false)) (Pos.of 4) fr) h2)
def Tryd6 : F → Hp → Out := (seqO Tryr6_0 (seqO Tryr6_1 (seqO (seqO Tryr6_2 (cndX (.tmp 21) (seqO Tryr6_3 Out.ret) Out.nor)) (seqO Tryr6_4 (seqO Tryr6_5 (seqO Tryr6_6 (seqO Tryr6_7 (seqO Tryr6_8 Out.ret))))))))
def Trye6 : FuncId → Option Fun := fun f => match Nat.beq f 15 with | true => some TryF15 | false => match Nat.beq f 10 with | true => some TryF10 | false => match Nat.beq f 8 with | true => some TryF8 | false => match Nat.beq f 13 with | true => some TryF13 | false => match Nat.beq f 9 with | true => some TryF9 | false => none
def Tryp6 : Plans := fun id => match Nat.beq id 4 with | true => some ([0, 0, 3, 0, 0, 16, 0, 64, 240, 504, 1016, 2040, 4095, 8191], [(0, .alloc), (1, .pure), (2, .heavy), (3, .pure), (4, .pure), (5, .pure), (6, .pure), (7, .pure), (8, .pure), (9, .pure), (10, .read 1), (11, .alloc), (12, .heavy), (13, .pure)]) | false => none
def TryF6 : Fun := funX Try.prog 0 Tryk6 Trye6 Tryp6 lf Try.f6
theorem TryD6 : denX Try.prog 0 Try.f6.ntmps Tryk6 Trye6 Tryp6 lf (codeOf Try.f6) = Tryd6 := by kernel_rfl
theorem TryF6_eq (x0 x1 : V) (h : Hp) : TryF6 [x0, x1] h = outR Try.prog [.tmp 4] (Tryd6 (T.set (some x1) (Pos.of 1) (T.set (some x0) (Pos.of 0) T.nil)) h) := funX_eq (by kernel_rfl) TryD6 (by kernel_rfl) h
theorem Tryc6 : CallOk Try.prog 0 6 TryF6 := funX_ok Trymix (callsOk_cons Tryc15 (callsOk_cons Tryc10 (callsOk_cons Tryc8 (callsOk_cons Tryc13 (callsOk_cons Tryc9 callsOk_0))))) Try.func6 (by kernel_rfl)

/-! 7: pillarbox/pillarboxlaw20.DiffTurned -/
def Tryk7 : Nat → Bool := fun t => memN t [0, 2, 3, 4, 5, 6, 7, 8, 14, 35]
def Tryr7_0 (fr : F) (h : Hp) : Out :=
  Out.nor (T.set (some (.bool false)) (Pos.of 2) fr) h
def Tryr7_1 (fr : F) (h : Hp) : Out :=
  gtO (T.get fr (Pos.of 0)) fun v0 => bndO (oConvInt .i64 v0 h) fun v10 h1 =>
  bndO (oBin .rem .none v10 (.int .i64 60) h1) fun v11 h2 =>
  Out.nor (T.set (some v11) (Pos.of 3) fr) h2
def Tryr7_2 (fr : F) (h : Hp) : Out :=
  Out.nor (T.set (some .nils) (Pos.of 5) (T.set (some .nils) (Pos.of 4) fr)) h
def Tryr7_3 (fr : F) (h : Hp) : Out :=
  Out.nor (T.set (some (.int .i64 0)) (Pos.of 6) fr) h
def Tryr7_4 (fr : F) (h : Hp) : Out :=
  gtO (T.get fr (Pos.of 6)) fun v6 => gtO (T.get fr (Pos.of 3)) fun v3 => bndO (oBin .lss .none v6 v3 h) fun v14 h2 =>
  Out.nor (T.set (some v14) (Pos.of 14) fr) h2
def Tryr7_6 (fr : F) (h : Hp) : Out :=
  gtO (T.get fr (Pos.of 4)) fun v4 => gtO (T.get fr (Pos.of 6)) fun v6 => bndO (oBuildSlice [(.int .i64 0)] 1 [(0, 1, v6)] h) fun v19 h2 =>
  bndO (oAppend 1 8 v4 v19 h2) fun v20 h3 =>
  Out.nor (T.set (some v20) (Pos.of 4) fr) h3
def Tryr7_7 (fr : F) (h : Hp) : Out :=
  gtO (T.get fr (Pos.of 5)) fun v5 => gtO (T.get fr (Pos.of 3)) fun v3 => bndO (oBin .sub .none v3 (.int .i64 1) h) fun v23 h2 =>
  gtO (T.get fr (Pos.of 6)) fun v6 => bndO (oBin .sub .none v23 v6 h2) fun v25 h4 =>
  bndO (oBuildSlice [(.int .i64 0)] 1 [(0, 1, v25)] h4) fun v26 h5 =>
  bndO (oAppend 1 8 v5 v26 h5) fun v27 h6 =>
  Out.nor (T.set (some v27) (Pos.of 5) fr) h6
def Tryr7_5 (fr : F) (h : Hp) : Out :=
  gtO (T.get fr (Pos.of 6)) fun v6 => bndO (oBin .add .none v6 (.int .i64 1) h) fun v16 h1 =>
  Out.nor (T.set (some v16) (Pos.of 6) fr) h1
def Tryr7_8 (fr : F) (h : Hp) : Out :=
  gtO (T.get fr (Pos.of 4)) fun v4 => gtO (T.get fr (Pos.of 5)) fun v5 => bndO (TryF8 [v4, v5] h) fun v31 h2 =>
  bndO (oExtract 0 v31 h2) fun v32 h4 =>
  bndO (oExtract 1 v31 h4) fun v33 h5 =>
  Out.nor (T.set (some v33) (Pos.of 8) (T.set (some v32) (Pos.of 7) fr)) h5
def Tryr7_9 (fr : F) (h : Hp) : Out :=
  gtO (T.get fr (Pos.of 3)) fun v3 => bndO (oBin .eql .none v3 (.int .i64 0) h) fun v35 h1 =>
  Out.nor (T.set (some v35) (Pos.of 35) fr) h1
def Tryr7_10 (fr : F) (h : Hp) : Out :=
  gtO (T.get fr (Pos.of 7)) fun v7 => bndO (oLenK 2 v7 h) fun v37 h1 =>
  bndO (oBin .eql .none v37 (.int .i64 0) h1) fun v38 h2 =>
  ifB v38 (gtO (T.get fr (Pos.of 8)) fun v8 => bndO (oLenK 2 v8 h2) fun v41 h5 =>
  bndO (oBin .eql .none v41 (.int .i64 0) h5) fun v42 h6 =>
  ifB v42 (bndO (TryF10 [] h6) fun v45 h9 =>
  Out.nor (T.set (some v45) (Pos.of 2) fr) h9) (Out.nor (T.set (some (.bool false)) (Pos.of 2) fr) h6)) (Out.nor (T.set (some (.bool false)) (Pos.of 2) fr) h2)
def Tryr7_11 (fr : F) (h : Hp) : Out :=
  gtO (T.get fr (Pos.of 7)) fun v7 => gtO (T.get fr (Pos.of 4)) fun v4 => bndO (oSlice 1 v4 (some (.int .i64 1)) none none h) fun v49 h2 =>
  bndO (TryF9 [v7, v49] h2) fun v50 h3 =>
  ifB v50 (gtO (T.get fr (Pos.of 8)) fun v8 => bndO (oLenK 2 v8 h3) fun v53 h6 =>
  gtO (T.get fr (Pos.of 3)) fun v3 => bndO (oBin .sub .none v3 (.int .i64 1) h6) fun v55 h8 =>
  bndO (oBin .eql .none v53 v55 h8) fun v56 h9 =>
  ifB v56 (bndO (TryF13 [v4, v7, v8] h9) fun v62 h15 =>
  gtO (T.get fr (Pos.of 5)) fun v5 => bndO (TryF9 [v62, v5] h15) fun v64 h17 =>
  ifB v64 (bndO (TryF10 [] h17) fun v67 h20 =>
  Out.nor (T.set (some v67) (Pos.of 2) fr) h20) (Out.nor (T.set (some (.bool false)) (Pos.of 2) fr) h17)) (Out.nor (T.set (some (.bool false)) (Pos.of 2) fr) h9)) (Out.nor (T.set (some (.bool false)) (Pos.of 2) fr) h3)
def Tryb7_4 : F → Hp → Out := (seqO (seqO Tryr7_4 (cndX (.tmp 14) Out.nor (Out.ex 0))) (seqO (blkO 1 (seqO Tryr7_6 Tryr7_7)) Tryr7_5))
def Tryd7 : F → Hp → Out := (seqO Tryr7_0 (seqO Tryr7_1 (seqO Tryr7_2 (seqO (seqO Tryr7_3 (blkO 0 (loopO Tryb7_4 lf))) (seqO Tryr7_8 (seqO (seqO Tryr7_9 (cndX (.tmp 35) (seqO Tryr7_10 Out.ret) Out.nor)) (seqO Tryr7_11 Out.ret)))))))
def Trye7 : FuncId → Option Fun := fun f => match Nat.beq f 8 with | true => some TryF8 | false => match Nat.beq f 10 with | true => some TryF10 | false => match Nat.beq f 9 with | true => some TryF9 | false => match Nat.beq f 13 with | true => some TryF13 | false => none
def Tryp7 : Plans := fun id => none
def TryF7 : Fun := funX Try.prog 0 Tryk7 Trye7 Tryp7 lf Try.f7
theorem TryD7 : denX Try.prog 0 Try.f7.ntmps Tryk7 Trye7 Tryp7 lf (codeOf Try.f7) = Tryd7 := by kernel_rfl
theorem TryF7_eq (x0 : V) (h : Hp) : TryF7 [x0] h = outR Try.prog [.tmp 2] (Tryd7 (T.set (some x0) (Pos.of 0) T.nil) h) := funX_eq (by kernel_rfl) TryD7 (by kernel_rfl) h
theorem Tryc7 : CallOk Try.prog 0 7 TryF7 := funX_ok Trymix (callsOk_cons Tryc8 (callsOk_cons Tryc10 (callsOk_cons Tryc9 (callsOk_cons Tryc13 callsOk_0)))) Try.func7 (by kernel_rfl)

end Go.Proofs.Ytmlbnkojodkieaa

noncomputable section
namespace Go.Proofs.Ytmlbnkojodkieaa
open Go Go.Proofs Go.Vm
set_option linter.unusedVariables false
set_option maxRecDepth 100000
set_option linter.unusedSimpArgs false
/-! ### what one's own rows take -/
theorem insert_own {b : Nat} {h : Hp} {v : V} {n k : Nat} {cs : List V} {x : V} (s : Own b h 1 v n cs) (hb : b ≤ h.next.nat) (hk : k ≤ n) (hs : (n + 1) * 8 ≤ 140737488355328) :
    ∃ v' h', TryF21 [v, .int .i64 (k : Int), .slice h.next 0 1 (.kn 1)] (h.new (.cells true [x])) = .ok v' h' ∧ Own b h' 1 v' (n + 1) (cs.take k ++ (x :: cs.drop k)) ∧ Fr b h h' := by
  have hl : (cs.take k ++ (x :: cs.drop k)).length = (n + 1) * 1 := by
    have := s.len
    simp; omega
  show ∃ v' h', oInsert v (.int .i64 (k : Int)) (.slice h.next 0 1 (.kn 1)) (h.new (.cells true [x])) = .ok v' h' ∧ _
  have hun : ∀ (s i : V) (h : Hp), oInsert s i (.slice h.next 0 1 (.kn 1)) (h.new (.cells true [x])) = asI64 i fun k => (match s with
      | .nils => (match k with | 0 => freshRow 1 8 1 [x] (h.new (.cells true [x])) (h.new (.cells true [x])) | _ + 1 => .bad)
      | .slice id o n cap => hCells (h.new (.cells true [x])) id fun wr old => (match cap with
        | .un u => (match wr, Nat.beq u 1, Nat.beq o 0, Nat.beq old.length n, h.next.eq id, Nat.ble k n with
          | true, true, true, true, false, true => freshRow 1 8 (n + 1) (old.take k ++ ([x] ++ old.drop k)) (h.new (.cells true [x])) ((h.new (.cells true [x])).put id none)
          | _, _, _, _, _, _ => .bad)
        | .kn _ => .bad)
      | _ => .bad) := fun s i h => by
    unfold oInsert
    congr 1
    funext k
    simp only []
    rw [hCells_row (wr := true) (all := [x]) (by rw [new_self]; rfl)]
    rfl
  rw [hun]
  have hfr : ∀ (N : Nat) (C : List V) (g : Hp), N * 8 ≤ 140737488355328 → freshRow 1 8 N C (h.new (.cells true [x])) g = .ok (.slice h.next.succ 0 N (.un 1)) (g.new (.cells true C)) := fun N C g hN => by
    unfold freshRow
    rw [show Nat.ble (Nat.mul N 8) 140737488355328 = true from Nat.ble_eq_true_of_le hN]
    rfl
  have hi64 : ∀ f : Nat → R V, asI64 (.int .i64 (k : Int)) f = f k := fun f => rfl
  rw [hi64]
  rcases s.is with ⟨rfl, rfl⟩ | ⟨i, rfl, hbi, hi, hg⟩
  · have hc : cs = [] := List.length_eq_zero_iff.1 (by rw [s.len])
    subst hc
    have hk0 : k = 0 := by omega
    subst hk0
    simp only [hfr 1 _ _ (by omega)]
    refine ⟨_, _, rfl, ⟨by simp, .inr ⟨h.next.succ, rfl, ?_, ?_, new_self _ _⟩⟩, ?_⟩
    · rw [Pos.nat_succ]; omega
    · rw [new_next_nat, new_next_nat, Pos.nat_succ]; omega
    · exact (Fr.new _ hb).trans (Fr.new _ (by rw [new_next_nat]; omega))
  · simp only []
    rw [hCells_row (wr := true) (all := cs) (by rw [new_ne h (by omega), hg]; rfl)]
    have h1 : Nat.beq cs.length n = true := by rw [s.len, Nat.mul_one]; exact Nat.beq_refl n
    have h2 : h.next.eq i = false := Pos.eq_false.2 (fun e => by rw [← e] at hi; omega)
    have h3 : Nat.ble k n = true := Nat.ble_eq_true_of_le hk
    have h4 : Nat.beq 1 1 = true := rfl
    have h5 : Nat.beq 0 0 = true := rfl
    simp only [h1, h2, h3, h4, h5, hfr (n + 1) _ _ hs]
    refine ⟨_, _, rfl, ⟨hl, .inr ⟨h.next.succ, rfl, ?_, ?_, new_self _ _⟩⟩, ?_⟩
    · rw [Pos.nat_succ]; omega
    · rw [new_next_nat, put_next, new_next_nat, Pos.nat_succ]; omega
    · exact ((Fr.new _ hb).trans (Fr.put i none hbi)).trans (Fr.new _ (by rw [put_next, new_next_nat]; omega))
theorem putV_one (x : V) : ∀ (k : Nat) (cs : List V), k < cs.length → putV k [x] cs = some (cs.set k x)
  | _, [], hk => by simp at hk
  | 0, a :: cs, _ => rfl
  | k + 1, a :: cs, hk => by
    have := putV_one x k cs (by simpa using hk)
    show (Option.casesOn (motive := fun _ => Option (List V)) (putV k [x] cs) none (fun r => some (a :: r))) = _
    rw [this]; rfl
theorem oStore_one {h : Hp} {i : Pos} {q : Nat} {cs : List V} {k : IntKind} {a : Int} (hg : h.get i = some (.cells true cs)) (hq : q < cs.length) : oStore 1 (.ptr i q) (.int k a) h = .ok V.undef (h.put i (some (.cells true (cs.set q (.int k a))))) := by
  show hCells h i _ = _
  rw [hCells_row (wr := true) (all := cs) (by rw [hg]; rfl)]
  simp only [notTuple, V.cells, List.length_singleton, Nat.beq_refl, putV_one _ _ _ hq]
theorem oStore_new2 {h : Hp} {z y : V} {j k : IntKind} {a c : Int} : oStore 2 (.ptr h.next 0) (.agg (.cons (.int j a) (.cons (.int k c) .nil))) (h.new (.cells true [z, y])) = .ok V.undef ((h.new (.cells true [z, y])).put h.next (some (.cells true [.int j a, .int k c]))) := by
  show hCells _ _ _ = _
  rw [hCells_row (wr := true) (all := [z, y]) (by rw [new_self]; rfl)]
  rfl
theorem Own.elem {b : Nat} {h : Hp} {v : V} {l : List Int} (s : Own b h 1 v l.length (ints l)) {k : Nat} (hk : k < l.length) (a : Int) : ∃ i, (∀ h', oIdxS 1 v (.int .i64 (k : Int)) h' = .ok (.ptr i k) h') ∧
    oStore 1 (.ptr i k) (.int .i64 a) h = .ok V.undef (h.put i (some (.cells true (ints (l.set k a))))) ∧ Own b (h.put i (some (.cells true (ints (l.set k a))))) 1 v (l.set k a).length (ints (l.set k a)) ∧ b ≤ i.nat := by
  have hl := s.len
  rcases s.is with ⟨h0, _⟩ | ⟨i, rfl, hbi, hi, hg⟩
  · omega
  · refine ⟨i, fun h' => by have := oIdxS_slice (sz := 1) (i := i) (o := 0) (c := .un 1) (j := .i64) (h := h') hk; simpa using this, ?_, ⟨by simp [ints_length], .inr ⟨i, by rw [List.length_set], hbi, hi, put_self _ _ _⟩⟩, hbi⟩
    rw [oStore_one hg (by rw [ints_length]; exact hk)]
    simp [ints]

/-! ### the plain answer -/
def insN (n : Nat) (a : Int) : Nat := (max 0 (min a (n : Int))).toNat
theorem insN_le (n : Nat) (a : Int) : insN n a ≤ n := by unfold insN; omega
theorem insN_eq (n : Nat) (a : Int) : max 0 (min a (n : Int)) = (insN n a : Int) := by unfold insN; omega
def insM (out : List Int) (p : Int × Int) : List Int := out.take (insN out.length p.2) ++ (p.1 :: out.drop (insN out.length p.2))
theorem insM_len (out : List Int) (p : Int × Int) : (insM out p).length = out.length + 1 := by
  have := insN_le out.length p.2
  unfold insM; simp; omega
def applyM (old gone : List Int) (added : List (Int × Int)) : List Int := added.foldl insM (old.filter fun x => !decide (x ∈ gone))
theorem foldl_len (added : List (Int × Int)) : ∀ l : List Int, (added.foldl insM l).length = l.length + added.length := by
  induction added with
  | nil => intro l; rfl
  | cons p t ih => intro l; rw [List.foldl_cons, ih, insM_len, List.length_cons]; omega
theorem filter_snoc (P : Int → Bool) (l : List Int) {k : Nat} (hk : k < l.length) : (l.take (k + 1)).filter P = (l.take k).filter P ++ (if P l[k] = true then [l[k]] else []) := by
  rw [List.take_add_one, List.getElem?_eq_getElem hk, List.filter_append]
  by_cases e : P l[k] = true <;> simp [e]
theorem foldl_snoc (added : List (Int × Int)) (l : List Int) {k : Nat} (hk : k < added.length) : (added.take (k + 1)).foldl insM l = insM ((added.take k).foldl insM l) added[k] := by
  rw [List.take_add_one, List.getElem?_eq_getElem hk, List.foldl_append]
  rfl
def ApplyQ (old gone : List Int) (added : List (Int × Int)) (b : Nat) (h : Hp) (r : V) (h' : Hp) : Prop :=
  Fr b h h' ∧ Own b h' 1 r (applyM old gone added).length (ints (applyM old gone added))
theorem apply_ok {b : Nat} {h : Hp} {v u t : V} {old gone : List Int} {added : List (Int × Int)} (s : Sl b h 1 v old.length (ints old)) (sg : Sl b h 1 u gone.length (ints gone)) (sa : Sl b h 2 t added.length (items added))
    (hb : b ≤ h.next.nat) (hl : old.length < 1000) (hm : gone.length < 1000) (hn : added.length < 1000) :
    ∃ r h', TryF13 [v, u, t] h = .ok r h' ∧ ApplyQ old gone added b h r h' := by
  rw [TryF13_eq]
  show Tells Try.prog _ (ApplyQ old gone added b h) _
  simp (disch := omega) only [seqO_eq, thenO_nor, thenO_ret, thenO_ex, gtO_some, bndO_ok, get_set_of, cndX_tmp, ifB_true, ifB_false, ifB_pos, ifB_neg, blkO_eq, blkX_nor, blkX_ret, blkX_ex, Nat.reduceEqDiff, Nat.zero_ne_one, Nat.one_ne_zero, reduceCtorEq, ↓reduceIte, oBin_add, oBin_sub, oBin_eql, oBin_neq, oBin_lss, oBin_leq, oBin_gtr, oBin_geq, oUn_not, oPick_true, oPick_false, oExtract_0, oExtract_1, oExtract_2, oMin_eq, oMax_eq, oFieldAddr_eq, oConvInt_i64, oBin_rem, oBuildSlice_11, oBinAgg_eql2, oBinAgg_neq2, oBuildSlice_1, oBuild_2, oBuildSlice_2, chk_zero, chk_nil, bumpH_zero, aBuildSlice_1, oBuildSlice_22, alcO_some, Bool.not_true, Bool.not_false, Option.getD_some, Option.getD_none, Option.isSome_some, Option.isSome_none, Tryd13, Tryr13_0, Tryr13_1, Tryr13_2, s.length]
  refine Oc.then (loop_rule (n := old.length) (fun m fr h' => ∃ (k : Nat) (o : V), k + m = old.length ∧ fr.get (Pos.of 1) = some u ∧ fr.get (Pos.of 2) = some t ∧ fr.get (Pos.of 12) = some v ∧ fr.get (Pos.of 13) = some (.int .i64 (old.length : Int)) ∧ fr.get (Pos.of 14) = some (.int .i64 (k : Int)) ∧ fr.get (Pos.of 7) = some o ∧
      Own b h' 1 o ((old.take k).filter fun x => !decide (x ∈ gone)).length (ints ((old.take k).filter fun x => !decide (x ∈ gone))) ∧ Fr b h h')
    (A := fun fr h' => ∃ o, fr.get (Pos.of 2) = some t ∧ fr.get (Pos.of 7) = some o ∧ Own b h' 1 o (old.filter fun x => !decide (x ∈ gone)).length (ints (old.filter fun x => !decide (x ∈ gone))) ∧ Fr b h h')
    (B := fun _ _ => False) (by rw [lf_eq]; omega) ?_ ?_) ?_ ?_
  · refine ⟨0, .nils, by omega, ?_, ?_, ?_, ?_, ?_, ?_, by simpa [ints] using Own.nil b h 1, Fr.refl _ _⟩
    all_goals first | (simp only [seqO_eq, thenO_nor, thenO_ret, thenO_ex, gtO_some, bndO_ok, get_set_of, cndX_tmp, ifB_true, ifB_false, ifB_pos, ifB_neg, blkO_eq, blkX_nor, blkX_ret, blkX_ex, Nat.reduceEqDiff, Nat.zero_ne_one, Nat.one_ne_zero, reduceCtorEq, ↓reduceIte, oBin_add, oBin_sub, oBin_eql, oBin_neq, oBin_lss, oBin_leq, oBin_gtr, oBin_geq, oUn_not, oPick_true, oPick_false, oExtract_0, oExtract_1, oExtract_2, oMin_eq, oMax_eq, oFieldAddr_eq, oConvInt_i64, oBin_rem, oBuildSlice_11, oBinAgg_eql2, oBinAgg_neq2, oBuildSlice_1, oBuild_2, oBuildSlice_2, chk_zero, chk_nil, bumpH_zero, aBuildSlice_1, oBuildSlice_22, alcO_some, Bool.not_true, Bool.not_false, Option.getD_some, Option.getD_none, Option.isSome_some, Option.isSome_none]; done) | (simp only [seqO_eq, thenO_nor, thenO_ret, thenO_ex, gtO_some, bndO_ok, get_set_of, cndX_tmp, ifB_true, ifB_false, ifB_pos, ifB_neg, blkO_eq, blkX_nor, blkX_ret, blkX_ex, Nat.reduceEqDiff, Nat.zero_ne_one, Nat.one_ne_zero, reduceCtorEq, ↓reduceIte, oBin_add, oBin_sub, oBin_eql, oBin_neq, oBin_lss, oBin_leq, oBin_gtr, oBin_geq, oUn_not, oPick_true, oPick_false, oExtract_0, oExtract_1, oExtract_2, oMin_eq, oMax_eq, oFieldAddr_eq, oConvInt_i64, oBin_rem, oBuildSlice_11, oBinAgg_eql2, oBinAgg_neq2, oBuildSlice_1, oBuild_2, oBuildSlice_2, chk_zero, chk_nil, bumpH_zero, aBuildSlice_1, oBuildSlice_22, alcO_some, Bool.not_true, Bool.not_false, Option.getD_some, Option.getD_none, Option.isSome_some, Option.isSome_none]; rfl)
  · rintro m fr h' ⟨k, o, hkm, f1, f2, f12, f13, f14, f7, ow, frh⟩
    by_cases hk : k < old.length
    · obtain ⟨i, q, e1, hib, e2⟩ := Sl.ints s hk
      have e2' := e2 h' (frh.get i hib)
      have ct := contains_ok (sg.fr frh) hm old[k]
      have fs := filter_snoc (fun x => !decide (x ∈ gone)) old hk
      have fl : ((old.take k).filter fun x => !decide (x ∈ gone)).length ≤ k := Nat.le_trans (List.length_filter_le _ _) (by rw [List.length_take]; omega)
      generalize old[k] = x at *
      by_cases hx : x ∈ gone
      · rw [decide_eq_true hx] at ct
        simp (disch := omega) only [seqO_eq, thenO_nor, thenO_ret, thenO_ex, gtO_some, bndO_ok, get_set_of, cndX_tmp, ifB_true, ifB_false, ifB_pos, ifB_neg, blkO_eq, blkX_nor, blkX_ret, blkX_ex, Nat.reduceEqDiff, Nat.zero_ne_one, Nat.one_ne_zero, reduceCtorEq, ↓reduceIte, oBin_add, oBin_sub, oBin_eql, oBin_neq, oBin_lss, oBin_leq, oBin_gtr, oBin_geq, oUn_not, oPick_true, oPick_false, oExtract_0, oExtract_1, oExtract_2, oMin_eq, oMax_eq, oFieldAddr_eq, oConvInt_i64, oBin_rem, oBuildSlice_11, oBinAgg_eql2, oBinAgg_neq2, oBuildSlice_1, oBuild_2, oBuildSlice_2, chk_zero, chk_nil, bumpH_zero, aBuildSlice_1, oBuildSlice_22, alcO_some, Bool.not_true, Bool.not_false, Option.getD_some, Option.getD_none, Option.isSome_some, Option.isSome_none, Tryb13_3, Tryr13_3, f14, f13, Tryr13_4, f12, e1, e2', Tryr13_5, f1, ct, Tryr13_7]
        rw [if_neg (by simp [hx]), List.append_nil] at fs
        refine ⟨m - 1, by omega, k + 1, o, by omega, ?_, ?_, ?_, ?_, ?_, ?_, by rw [fs]; exact ow, frh⟩
        all_goals first | (simp only [seqO_eq, thenO_nor, thenO_ret, thenO_ex, gtO_some, bndO_ok, get_set_of, cndX_tmp, ifB_true, ifB_false, ifB_pos, ifB_neg, blkO_eq, blkX_nor, blkX_ret, blkX_ex, Nat.reduceEqDiff, Nat.zero_ne_one, Nat.one_ne_zero, reduceCtorEq, ↓reduceIte, oBin_add, oBin_sub, oBin_eql, oBin_neq, oBin_lss, oBin_leq, oBin_gtr, oBin_geq, oUn_not, oPick_true, oPick_false, oExtract_0, oExtract_1, oExtract_2, oMin_eq, oMax_eq, oFieldAddr_eq, oConvInt_i64, oBin_rem, oBuildSlice_11, oBinAgg_eql2, oBinAgg_neq2, oBuildSlice_1, oBuild_2, oBuildSlice_2, chk_zero, chk_nil, bumpH_zero, aBuildSlice_1, oBuildSlice_22, alcO_some, Bool.not_true, Bool.not_false, Option.getD_some, Option.getD_none, Option.isSome_some, Option.isSome_none, f1, f2, f12, f13, f7]; done) | (simp only [seqO_eq, thenO_nor, thenO_ret, thenO_ex, gtO_some, bndO_ok, get_set_of, cndX_tmp, ifB_true, ifB_false, ifB_pos, ifB_neg, blkO_eq, blkX_nor, blkX_ret, blkX_ex, Nat.reduceEqDiff, Nat.zero_ne_one, Nat.one_ne_zero, reduceCtorEq, ↓reduceIte, oBin_add, oBin_sub, oBin_eql, oBin_neq, oBin_lss, oBin_leq, oBin_gtr, oBin_geq, oUn_not, oPick_true, oPick_false, oExtract_0, oExtract_1, oExtract_2, oMin_eq, oMax_eq, oFieldAddr_eq, oConvInt_i64, oBin_rem, oBuildSlice_11, oBinAgg_eql2, oBinAgg_neq2, oBuildSlice_1, oBuild_2, oBuildSlice_2, chk_zero, chk_nil, bumpH_zero, aBuildSlice_1, oBuildSlice_22, alcO_some, Bool.not_true, Bool.not_false, Option.getD_some, Option.getD_none, Option.isSome_some, Option.isSome_none]; rfl)
      · rw [decide_eq_false hx] at ct
        obtain ⟨o', h2, a1, a2, a3⟩ := append_own (bt := 8) (new := [.int .i64 x]) ow (Nat.le_trans hb frh.next) rfl (by omega)
        simp (disch := omega) only [seqO_eq, thenO_nor, thenO_ret, thenO_ex, gtO_some, bndO_ok, get_set_of, cndX_tmp, ifB_true, ifB_false, ifB_pos, ifB_neg, blkO_eq, blkX_nor, blkX_ret, blkX_ex, Nat.reduceEqDiff, Nat.zero_ne_one, Nat.one_ne_zero, reduceCtorEq, ↓reduceIte, oBin_add, oBin_sub, oBin_eql, oBin_neq, oBin_lss, oBin_leq, oBin_gtr, oBin_geq, oUn_not, oPick_true, oPick_false, oExtract_0, oExtract_1, oExtract_2, oMin_eq, oMax_eq, oFieldAddr_eq, oConvInt_i64, oBin_rem, oBuildSlice_11, oBinAgg_eql2, oBinAgg_neq2, oBuildSlice_1, oBuild_2, oBuildSlice_2, chk_zero, chk_nil, bumpH_zero, aBuildSlice_1, oBuildSlice_22, alcO_some, Bool.not_true, Bool.not_false, Option.getD_some, Option.getD_none, Option.isSome_some, Option.isSome_none, Tryb13_3, Tryr13_3, f14, f13, Tryr13_4, f12, e1, e2', Tryr13_5, f1, ct, Tryr13_6, f7, a1, Tryr13_7]
        rw [if_pos (by simp [hx])] at fs
        refine ⟨m - 1, by omega, k + 1, o', by omega, ?_, ?_, ?_, ?_, ?_, ?_, by rw [fs, ints_append, List.length_append]; exact a2, frh.trans a3⟩
        all_goals first | (simp only [seqO_eq, thenO_nor, thenO_ret, thenO_ex, gtO_some, bndO_ok, get_set_of, cndX_tmp, ifB_true, ifB_false, ifB_pos, ifB_neg, blkO_eq, blkX_nor, blkX_ret, blkX_ex, Nat.reduceEqDiff, Nat.zero_ne_one, Nat.one_ne_zero, reduceCtorEq, ↓reduceIte, oBin_add, oBin_sub, oBin_eql, oBin_neq, oBin_lss, oBin_leq, oBin_gtr, oBin_geq, oUn_not, oPick_true, oPick_false, oExtract_0, oExtract_1, oExtract_2, oMin_eq, oMax_eq, oFieldAddr_eq, oConvInt_i64, oBin_rem, oBuildSlice_11, oBinAgg_eql2, oBinAgg_neq2, oBuildSlice_1, oBuild_2, oBuildSlice_2, chk_zero, chk_nil, bumpH_zero, aBuildSlice_1, oBuildSlice_22, alcO_some, Bool.not_true, Bool.not_false, Option.getD_some, Option.getD_none, Option.isSome_some, Option.isSome_none, f1, f2, f12, f13]; done) | (simp only [seqO_eq, thenO_nor, thenO_ret, thenO_ex, gtO_some, bndO_ok, get_set_of, cndX_tmp, ifB_true, ifB_false, ifB_pos, ifB_neg, blkO_eq, blkX_nor, blkX_ret, blkX_ex, Nat.reduceEqDiff, Nat.zero_ne_one, Nat.one_ne_zero, reduceCtorEq, ↓reduceIte, oBin_add, oBin_sub, oBin_eql, oBin_neq, oBin_lss, oBin_leq, oBin_gtr, oBin_geq, oUn_not, oPick_true, oPick_false, oExtract_0, oExtract_1, oExtract_2, oMin_eq, oMax_eq, oFieldAddr_eq, oConvInt_i64, oBin_rem, oBuildSlice_11, oBinAgg_eql2, oBinAgg_neq2, oBuildSlice_1, oBuild_2, oBuildSlice_2, chk_zero, chk_nil, bumpH_zero, aBuildSlice_1, oBuildSlice_22, alcO_some, Bool.not_true, Bool.not_false, Option.getD_some, Option.getD_none, Option.isSome_some, Option.isSome_none]; rfl)
    · have hk' : k = old.length := by omega
      subst hk'
      rw [List.take_length] at ow
      simp (disch := omega) only [seqO_eq, thenO_nor, thenO_ret, thenO_ex, gtO_some, bndO_ok, get_set_of, cndX_tmp, ifB_true, ifB_false, ifB_pos, ifB_neg, blkO_eq, blkX_nor, blkX_ret, blkX_ex, Nat.reduceEqDiff, Nat.zero_ne_one, Nat.one_ne_zero, reduceCtorEq, ↓reduceIte, oBin_add, oBin_sub, oBin_eql, oBin_neq, oBin_lss, oBin_leq, oBin_gtr, oBin_geq, oUn_not, oPick_true, oPick_false, oExtract_0, oExtract_1, oExtract_2, oMin_eq, oMax_eq, oFieldAddr_eq, oConvInt_i64, oBin_rem, oBuildSlice_11, oBinAgg_eql2, oBinAgg_neq2, oBuildSlice_1, oBuild_2, oBuildSlice_2, chk_zero, chk_nil, bumpH_zero, aBuildSlice_1, oBuildSlice_22, alcO_some, Bool.not_true, Bool.not_false, Option.getD_some, Option.getD_none, Option.isSome_some, Option.isSome_none, Tryb13_3, Tryr13_3, f14, f13]
      exact ⟨rfl, o, by simp only [seqO_eq, thenO_nor, thenO_ret, thenO_ex, gtO_some, bndO_ok, get_set_of, cndX_tmp, ifB_true, ifB_false, ifB_pos, ifB_neg, blkO_eq, blkX_nor, blkX_ret, blkX_ex, Nat.reduceEqDiff, Nat.zero_ne_one, Nat.one_ne_zero, reduceCtorEq, ↓reduceIte, oBin_add, oBin_sub, oBin_eql, oBin_neq, oBin_lss, oBin_leq, oBin_gtr, oBin_geq, oUn_not, oPick_true, oPick_false, oExtract_0, oExtract_1, oExtract_2, oMin_eq, oMax_eq, oFieldAddr_eq, oConvInt_i64, oBin_rem, oBuildSlice_11, oBinAgg_eql2, oBinAgg_neq2, oBuildSlice_1, oBuild_2, oBuildSlice_2, chk_zero, chk_nil, bumpH_zero, aBuildSlice_1, oBuildSlice_22, alcO_some, Bool.not_true, Bool.not_false, Option.getD_some, Option.getD_none, Option.isSome_some, Option.isSome_none, f2], by simp only [seqO_eq, thenO_nor, thenO_ret, thenO_ex, gtO_some, bndO_ok, get_set_of, cndX_tmp, ifB_true, ifB_false, ifB_pos, ifB_neg, blkO_eq, blkX_nor, blkX_ret, blkX_ex, Nat.reduceEqDiff, Nat.zero_ne_one, Nat.one_ne_zero, reduceCtorEq, ↓reduceIte, oBin_add, oBin_sub, oBin_eql, oBin_neq, oBin_lss, oBin_leq, oBin_gtr, oBin_geq, oUn_not, oPick_true, oPick_false, oExtract_0, oExtract_1, oExtract_2, oMin_eq, oMax_eq, oFieldAddr_eq, oConvInt_i64, oBin_rem, oBuildSlice_11, oBinAgg_eql2, oBinAgg_neq2, oBuildSlice_1, oBuild_2, oBuildSlice_2, chk_zero, chk_nil, bumpH_zero, aBuildSlice_1, oBuildSlice_22, alcO_some, Bool.not_true, Bool.not_false, Option.getD_some, Option.getD_none, Option.isSome_some, Option.isSome_none, f7], ow, frh⟩
  · rintro fr h' ⟨o, f2, f7, ow, frh⟩
    have fl : (old.filter fun x => !decide (x ∈ gone)).length ≤ old.length := List.length_filter_le _ _
    have ef : applyM old gone added = added.foldl insM (old.filter fun x => !decide (x ∈ gone)) := rfl
    unfold ApplyQ
    rw [ef]
    generalize (old.filter fun x => !decide (x ∈ gone)) = O at *
    simp (disch := omega) only [seqO_eq, thenO_nor, thenO_ret, thenO_ex, gtO_some, bndO_ok, get_set_of, cndX_tmp, ifB_true, ifB_false, ifB_pos, ifB_neg, blkO_eq, blkX_nor, blkX_ret, blkX_ex, Nat.reduceEqDiff, Nat.zero_ne_one, Nat.one_ne_zero, reduceCtorEq, ↓reduceIte, oBin_add, oBin_sub, oBin_eql, oBin_neq, oBin_lss, oBin_leq, oBin_gtr, oBin_geq, oUn_not, oPick_true, oPick_false, oExtract_0, oExtract_1, oExtract_2, oMin_eq, oMax_eq, oFieldAddr_eq, oConvInt_i64, oBin_rem, oBuildSlice_11, oBinAgg_eql2, oBinAgg_neq2, oBuildSlice_1, oBuild_2, oBuildSlice_2, chk_zero, chk_nil, bumpH_zero, aBuildSlice_1, oBuildSlice_22, alcO_some, Bool.not_true, Bool.not_false, Option.getD_some, Option.getD_none, Option.isSome_some, Option.isSome_none, Tryr13_8, f2, sa.length]
    refine Oc.then (loop_rule (n := added.length) (fun m fr h' => ∃ (k : Nat) (o : V), k + m = added.length ∧ fr.get (Pos.of 27) = some t ∧ fr.get (Pos.of 28) = some (.int .i64 (added.length : Int)) ∧ fr.get (Pos.of 29) = some (.int .i64 (k : Int)) ∧ fr.get (Pos.of 7) = some o ∧
        Own b h' 1 o ((added.take k).foldl insM O).length (ints ((added.take k).foldl insM O)) ∧ Fr b h h')
      (A := fun fr h' => ∃ o, fr.get (Pos.of 7) = some o ∧ Own b h' 1 o (added.foldl insM O).length (ints (added.foldl insM O)) ∧ Fr b h h')
      (B := fun _ _ => False) (by rw [lf_eq]; omega) ?_ ?_) ?_ ?_
    · refine ⟨0, o, by omega, ?_, ?_, ?_, ?_, by simpa using ow, frh⟩
      all_goals first | (simp only [seqO_eq, thenO_nor, thenO_ret, thenO_ex, gtO_some, bndO_ok, get_set_of, cndX_tmp, ifB_true, ifB_false, ifB_pos, ifB_neg, blkO_eq, blkX_nor, blkX_ret, blkX_ex, Nat.reduceEqDiff, Nat.zero_ne_one, Nat.one_ne_zero, reduceCtorEq, ↓reduceIte, oBin_add, oBin_sub, oBin_eql, oBin_neq, oBin_lss, oBin_leq, oBin_gtr, oBin_geq, oUn_not, oPick_true, oPick_false, oExtract_0, oExtract_1, oExtract_2, oMin_eq, oMax_eq, oFieldAddr_eq, oConvInt_i64, oBin_rem, oBuildSlice_11, oBinAgg_eql2, oBinAgg_neq2, oBuildSlice_1, oBuild_2, oBuildSlice_2, chk_zero, chk_nil, bumpH_zero, aBuildSlice_1, oBuildSlice_22, alcO_some, Bool.not_true, Bool.not_false, Option.getD_some, Option.getD_none, Option.isSome_some, Option.isSome_none, f7]; done) | (simp only [seqO_eq, thenO_nor, thenO_ret, thenO_ex, gtO_some, bndO_ok, get_set_of, cndX_tmp, ifB_true, ifB_false, ifB_pos, ifB_neg, blkO_eq, blkX_nor, blkX_ret, blkX_ex, Nat.reduceEqDiff, Nat.zero_ne_one, Nat.one_ne_zero, reduceCtorEq, ↓reduceIte, oBin_add, oBin_sub, oBin_eql, oBin_neq, oBin_lss, oBin_leq, oBin_gtr, oBin_geq, oUn_not, oPick_true, oPick_false, oExtract_0, oExtract_1, oExtract_2, oMin_eq, oMax_eq, oFieldAddr_eq, oConvInt_i64, oBin_rem, oBuildSlice_11, oBinAgg_eql2, oBinAgg_neq2, oBuildSlice_1, oBuild_2, oBuildSlice_2, chk_zero, chk_nil, bumpH_zero, aBuildSlice_1, oBuildSlice_22, alcO_some, Bool.not_true, Bool.not_false, Option.getD_some, Option.getD_none, Option.isSome_some, Option.isSome_none]; rfl)
    · rintro m fr h' ⟨k, o, hkm, f27, f28, f29, f7, ow, frh⟩
      by_cases hk : k < added.length
      · obtain ⟨i, q, e1, hib, e2⟩ := Sl.items sa hk
        have e2' := (e2 h' (frh.get i hib)).2.2
        have fs := foldl_snoc added O hk
        have fl2 := foldl_len (added.take k) O
        rw [List.length_take, Nat.min_eq_left (by omega)] at fl2
        generalize added[k] = p at *
        generalize (added.take k).foldl insM O = S at *
        -- the item, in memory of its own
        have hb' := Nat.le_trans hb frh.next
        have st := oStore_new2 (h := h') (z := .int .i64 0) (y := .int .i64 0) (j := .i64) (k := .i64) (a := p.1) (c := p.2)
        have g3 : Fr h'.next.nat h' ((h'.new (.cells true [.int .i64 0, .int .i64 0])).put h'.next (some (.cells true [.int .i64 p.1, .int .i64 p.2]))) := (Fr.new _ (Nat.le_refl _)).trans (Fr.put _ _ (Nat.le_refl _))
        have n3 : ((h'.new (.cells true [.int .i64 0, .int .i64 0])).put h'.next (some (.cells true [.int .i64 p.1, .int .i64 p.2]))).next.nat = h'.next.nat + 1 := by rw [put_next, new_next_nat]
        have l1 : oLoad1 (.ptr h'.next (0 + 1)) ((h'.new (.cells true [.int .i64 0, .int .i64 0])).put h'.next (some (.cells true [.int .i64 p.1, .int .i64 p.2]))) = .ok (.int .i64 p.2) ((h'.new (.cells true [.int .i64 0, .int .i64 0])).put h'.next (some (.cells true [.int .i64 p.1, .int .i64 p.2]))) :=
          oLoad1_row (wr := true) (all := [.int .i64 p.1, .int .i64 p.2]) (by rw [put_self]; rfl) rfl
        have l0 : oLoad1 (.ptr h'.next (0 + 0)) ((h'.new (.cells true [.int .i64 0, .int .i64 0])).put h'.next (some (.cells true [.int .i64 p.1, .int .i64 p.2]))) = .ok (.int .i64 p.1) ((h'.new (.cells true [.int .i64 0, .int .i64 0])).put h'.next (some (.cells true [.int .i64 p.1, .int .i64 p.2]))) :=
          oLoad1_row (wr := true) (all := [.int .i64 p.1, .int .i64 p.2]) (by rw [put_self]; rfl) rfl
        have ow3 := ow.fr g3 (Nat.le_refl _)
        have lw := ow.sl.length (h' := ((h'.new (.cells true [.int .i64 0, .int .i64 0])).put h'.next (some (.cells true [.int .i64 p.1, .int .i64 p.2]))))
        generalize hH : ((h'.new (.cells true [.int .i64 0, .int .i64 0])).put h'.next (some (.cells true [.int .i64 p.1, .int .i64 p.2]))) = H3 at *
        obtain ⟨o', h5, a1, a2, a3⟩ := insert_own (k := insN S.length p.2) (x := .int .i64 p.1) ow3 (by omega) (insN_le _ _) (by omega)
        have ee := insN_eq S.length p.2
        simp (disch := omega) only [seqO_eq, thenO_nor, thenO_ret, thenO_ex, gtO_some, bndO_ok, get_set_of, cndX_tmp, ifB_true, ifB_false, ifB_pos, ifB_neg, blkO_eq, blkX_nor, blkX_ret, blkX_ex, Nat.reduceEqDiff, Nat.zero_ne_one, Nat.one_ne_zero, reduceCtorEq, ↓reduceIte, oBin_add, oBin_sub, oBin_eql, oBin_neq, oBin_lss, oBin_leq, oBin_gtr, oBin_geq, oUn_not, oPick_true, oPick_false, oExtract_0, oExtract_1, oExtract_2, oMin_eq, oMax_eq, oFieldAddr_eq, oConvInt_i64, oBin_rem, oBuildSlice_11, oBinAgg_eql2, oBinAgg_neq2, oBuildSlice_1, oBuild_2, oBuildSlice_2, chk_zero, chk_nil, bumpH_zero, aBuildSlice_1, oBuildSlice_22, alcO_some, Bool.not_true, Bool.not_false, Option.getD_some, Option.getD_none, Option.isSome_some, Option.isSome_none, Tryb13_9, Tryr13_9, f29, f28, Tryr13_10, f27, e1, e2', oNew, st, Tryr13_11, f7, l1, lw, ee, l0, a1, Tryr13_12]
        refine ⟨m - 1, by omega, k + 1, o', by omega, ?_, ?_, ?_, ?_, ?_, (frh.trans (g3.le hb')).trans a3⟩
        all_goals first | (simp only [seqO_eq, thenO_nor, thenO_ret, thenO_ex, gtO_some, bndO_ok, get_set_of, cndX_tmp, ifB_true, ifB_false, ifB_pos, ifB_neg, blkO_eq, blkX_nor, blkX_ret, blkX_ex, Nat.reduceEqDiff, Nat.zero_ne_one, Nat.one_ne_zero, reduceCtorEq, ↓reduceIte, oBin_add, oBin_sub, oBin_eql, oBin_neq, oBin_lss, oBin_leq, oBin_gtr, oBin_geq, oUn_not, oPick_true, oPick_false, oExtract_0, oExtract_1, oExtract_2, oMin_eq, oMax_eq, oFieldAddr_eq, oConvInt_i64, oBin_rem, oBuildSlice_11, oBinAgg_eql2, oBinAgg_neq2, oBuildSlice_1, oBuild_2, oBuildSlice_2, chk_zero, chk_nil, bumpH_zero, aBuildSlice_1, oBuildSlice_22, alcO_some, Bool.not_true, Bool.not_false, Option.getD_some, Option.getD_none, Option.isSome_some, Option.isSome_none, f27, f28]; done) | (simp only [seqO_eq, thenO_nor, thenO_ret, thenO_ex, gtO_some, bndO_ok, get_set_of, cndX_tmp, ifB_true, ifB_false, ifB_pos, ifB_neg, blkO_eq, blkX_nor, blkX_ret, blkX_ex, Nat.reduceEqDiff, Nat.zero_ne_one, Nat.one_ne_zero, reduceCtorEq, ↓reduceIte, oBin_add, oBin_sub, oBin_eql, oBin_neq, oBin_lss, oBin_leq, oBin_gtr, oBin_geq, oUn_not, oPick_true, oPick_false, oExtract_0, oExtract_1, oExtract_2, oMin_eq, oMax_eq, oFieldAddr_eq, oConvInt_i64, oBin_rem, oBuildSlice_11, oBinAgg_eql2, oBinAgg_neq2, oBuildSlice_1, oBuild_2, oBuildSlice_2, chk_zero, chk_nil, bumpH_zero, aBuildSlice_1, oBuildSlice_22, alcO_some, Bool.not_true, Bool.not_false, Option.getD_some, Option.getD_none, Option.isSome_some, Option.isSome_none]; rfl) | skip
        rw [fs, insM_len]
        simpa [insM, ints] using a2
      · have hk' : k = added.length := by omega
        subst hk'
        rw [List.take_length] at ow
        simp (disch := omega) only [seqO_eq, thenO_nor, thenO_ret, thenO_ex, gtO_some, bndO_ok, get_set_of, cndX_tmp, ifB_true, ifB_false, ifB_pos, ifB_neg, blkO_eq, blkX_nor, blkX_ret, blkX_ex, Nat.reduceEqDiff, Nat.zero_ne_one, Nat.one_ne_zero, reduceCtorEq, ↓reduceIte, oBin_add, oBin_sub, oBin_eql, oBin_neq, oBin_lss, oBin_leq, oBin_gtr, oBin_geq, oUn_not, oPick_true, oPick_false, oExtract_0, oExtract_1, oExtract_2, oMin_eq, oMax_eq, oFieldAddr_eq, oConvInt_i64, oBin_rem, oBuildSlice_11, oBinAgg_eql2, oBinAgg_neq2, oBuildSlice_1, oBuild_2, oBuildSlice_2, chk_zero, chk_nil, bumpH_zero, aBuildSlice_1, oBuildSlice_22, alcO_some, Bool.not_true, Bool.not_false, Option.getD_some, Option.getD_none, Option.isSome_some, Option.isSome_none, Tryb13_9, Tryr13_9, f29, f28]
        exact ⟨rfl, o, by simp only [seqO_eq, thenO_nor, thenO_ret, thenO_ex, gtO_some, bndO_ok, get_set_of, cndX_tmp, ifB_true, ifB_false, ifB_pos, ifB_neg, blkO_eq, blkX_nor, blkX_ret, blkX_ex, Nat.reduceEqDiff, Nat.zero_ne_one, Nat.one_ne_zero, reduceCtorEq, ↓reduceIte, oBin_add, oBin_sub, oBin_eql, oBin_neq, oBin_lss, oBin_leq, oBin_gtr, oBin_geq, oUn_not, oPick_true, oPick_false, oExtract_0, oExtract_1, oExtract_2, oMin_eq, oMax_eq, oFieldAddr_eq, oConvInt_i64, oBin_rem, oBuildSlice_11, oBinAgg_eql2, oBinAgg_neq2, oBuildSlice_1, oBuild_2, oBuildSlice_2, chk_zero, chk_nil, bumpH_zero, aBuildSlice_1, oBuildSlice_22, alcO_some, Bool.not_true, Bool.not_false, Option.getD_some, Option.getD_none, Option.isSome_some, Option.isSome_none, f7], ow, frh⟩
    · rintro fr h' ⟨o, f7, ow, frh⟩
      simp only [seqO_eq, thenO_nor, thenO_ret, thenO_ex, gtO_some, bndO_ok, get_set_of, cndX_tmp, ifB_true, ifB_false, ifB_pos, ifB_neg, blkO_eq, blkX_nor, blkX_ret, blkX_ex, Nat.reduceEqDiff, Nat.zero_ne_one, Nat.one_ne_zero, reduceCtorEq, ↓reduceIte, oBin_add, oBin_sub, oBin_eql, oBin_neq, oBin_lss, oBin_leq, oBin_gtr, oBin_geq, oUn_not, oPick_true, oPick_false, oExtract_0, oExtract_1, oExtract_2, oMin_eq, oMax_eq, oFieldAddr_eq, oConvInt_i64, oBin_rem, oBuildSlice_11, oBinAgg_eql2, oBinAgg_neq2, oBuildSlice_1, oBuild_2, oBuildSlice_2, chk_zero, chk_nil, bumpH_zero, aBuildSlice_1, oBuildSlice_22, alcO_some, Bool.not_true, Bool.not_false, Option.getD_some, Option.getD_none, Option.isSome_some, Option.isSome_none, Tryr13_13, f7]
      exact Tells.ret (by simp only [resK, get_set_of, seqO_eq, thenO_nor, thenO_ret, thenO_ex, gtO_some, bndO_ok, get_set_of, cndX_tmp, ifB_true, ifB_false, ifB_pos, ifB_neg, blkO_eq, blkX_nor, blkX_ret, blkX_ex, Nat.reduceEqDiff, Nat.zero_ne_one, Nat.one_ne_zero, reduceCtorEq, ↓reduceIte, oBin_add, oBin_sub, oBin_eql, oBin_neq, oBin_lss, oBin_leq, oBin_gtr, oBin_geq, oUn_not, oPick_true, oPick_false, oExtract_0, oExtract_1, oExtract_2, oMin_eq, oMax_eq, oFieldAddr_eq, oConvInt_i64, oBin_rem, oBuildSlice_11, oBinAgg_eql2, oBinAgg_neq2, oBuildSlice_1, oBuild_2, oBuildSlice_2, chk_zero, chk_nil, bumpH_zero, aBuildSlice_1, oBuildSlice_22, alcO_some, Bool.not_true, Bool.not_false, Option.getD_some, Option.getD_none, Option.isSome_some, Option.isSome_none, tupR]; first | done | rfl) ⟨frh, ow⟩
    · intro _ _ hf; exact hf.elim
  · intro _ _ hf; exact hf.elim
end Go.Proofs.Ytmlbnkojodkieaa

noncomputable section
namespace Go.Proofs.Ytmlbnkojodkieaa
open Go Go.Proofs Go.Vm
set_option linter.unusedVariables false
set_option maxRecDepth 100000
set_option linter.unusedSimpArgs false
/-! ### once -/
def u8v (l : List Nat) : List V := l.map fun (n : Nat) => V.int .u8 (n : Int)
theorem Sl.u8 {b : Nat} {h : Hp} {v : V} {l : List Nat} (s : Sl b h 1 v l.length (u8v l)) {k : Nat} (hk : k < l.length) : ∃ i q, (∀ h', oIdxS 1 v (.int .i64 (k : Int)) h' = .ok (.ptr i q) h') ∧ i.nat < b ∧ ∀ h', h'.get i = h.get i → oLoad1 (.ptr i q) h' = .ok (.int .u8 (l[k] : Int)) h' := by
  obtain ⟨i, q, x, hx, e1, hib, e2⟩ := s.at1 hk
  have : (u8v l)[k]? = some (.int .u8 (l[k] : Int)) := by simp [u8v, hk]
  rw [this] at hx
  cases hx
  exact ⟨i, q, e1, hib, e2⟩
theorem oIdxA_eq {h : Hp} {len sz k o : Nat} {i : Pos} {j : IntKind} (hk : k < len) : oIdxA len sz (.ptr i o) (.int j (k : Int)) h = .ok (.ptr i (o + k * sz)) h := by
  show (match Nat.blt k len with | true => forceNat (o + k * sz) fun q => R.ok (V.ptr i q) h | false => .bad) = _
  have : Nat.blt k len = true := by simpa [Nat.blt_eq] using hk
  rw [this, forceNat_eq]
def seenV (S : List Nat) : List V := (List.range 256).map fun i => V.bool (decide (i ∈ S))
theorem seenV_get (S : List Nat) {x : Nat} (hx : x < 256) : (seenV S)[x]? = some (.bool (decide (x ∈ S))) := by simp [seenV, hx]
theorem seenV_set (S : List Nat) (x : Nat) : (seenV S).set x (.bool true) = seenV (S ++ [x]) := by
  apply List.ext_getElem?
  intro i
  rw [List.getElem?_set]
  have hl : (seenV S).length = 256 := by simp [seenV]
  by_cases e : x = i
  · subst e
    by_cases hx : x < 256
    · rw [if_pos rfl, hl, if_pos hx, seenV_get _ hx]; simp
    · rw [if_pos rfl, hl, if_neg hx, List.getElem?_eq_none (by simp [seenV]; omega)]
  · rw [if_neg e]
    by_cases hi : i < 256
    · rw [seenV_get _ hi, seenV_get _ hi]
      have : (i ∈ S ++ [x]) = (i ∈ S) := by simp [Ne.symm e]
      simp [Ne.symm e]
    · rw [List.getElem?_eq_none (by simp [seenV]; omega), List.getElem?_eq_none (by simp [seenV]; omega)]
def onceG : List Nat → List Nat → List Int
  | [], _ => []
  | x :: l, S => if x ∈ S then onceG l (S ++ [x]) else (x : Int) :: onceG l (S ++ [x])
theorem onceG_mem : ∀ {l S : List Nat} {y : Int}, y ∈ onceG l S → ∃ x : Nat, y = (x : Int) ∧ x ∈ l ∧ x ∉ S
  | [], _, _, h => by cases h
  | x :: l, S, y, h => by
    unfold onceG at h
    split at h
    · obtain ⟨z, h1, h2, h3⟩ := onceG_mem h
      exact ⟨z, h1, by simp [h2], fun hz => h3 (by simp [hz])⟩
    · rename_i hx
      rcases List.mem_cons.1 h with rfl | h
      · exact ⟨x, rfl, by simp, hx⟩
      · obtain ⟨z, h1, h2, h3⟩ := onceG_mem h
        exact ⟨z, h1, by simp [h2], fun hz => h3 (by simp [hz])⟩
theorem onceG_nodup : ∀ (l S : List Nat), (onceG l S).Nodup
  | [], _ => List.nodup_nil
  | x :: l, S => by
    unfold onceG
    split
    · exact onceG_nodup l _
    · rw [List.nodup_cons]
      refine ⟨fun h => ?_, onceG_nodup l _⟩
      obtain ⟨z, h1, h2, h3⟩ := onceG_mem h
      have : x = z := by omega
      exact h3 (by simp [this])
theorem nodup_lt : ∀ (n : Nat) (l : List Int), l.Nodup → (∀ y ∈ l, 0 ≤ y ∧ y < n) → l.length ≤ n
  | 0, l, _, h => by
    cases l with
    | nil => simp
    | cons y l => have := h y (by simp); omega
  | n + 1, l, hn, h => by
    have h1 : ∀ l : List Int, l.Nodup → l.length ≤ (l.filter fun y => decide (y ≠ (n : Int))).length + 1 := by
      intro l
      induction l with
      | nil => intro _; simp
      | cons y l ih =>
        intro hn
        rw [List.nodup_cons] at hn
        by_cases e : y = (n : Int)
        · have : (l.filter fun y => decide (y ≠ (n : Int))) = l := List.filter_eq_self.2 fun z hz => by
            simp; intro ez; subst e; exact hn.1 (ez ▸ hz)
          simp only [List.length_cons, List.filter_cons, e, ne_eq, not_true_eq_false, decide_false, Bool.false_eq_true, if_false]
          rw [this]; omega
        · have := ih hn.2
          simp only [List.length_cons, List.filter_cons, ne_eq, e, not_false_eq_true, decide_true, if_true]
          simp only [ne_eq] at this
          omega
    have h2 := nodup_lt n (l.filter fun y => decide (y ≠ (n : Int))) (hn.filter _) fun y hy => by
      rw [List.mem_filter] at hy
      have := h y hy.1
      have h3 : y ≠ (n : Int) := by simpa using hy.2
      omega
    have := h1 l hn
    omega
theorem onceG_len {l : List Nat} (hl : ∀ x ∈ l, x < 256) (S : List Nat) : (onceG l S).length ≤ 256 := by
  refine nodup_lt 256 _ (onceG_nodup l S) fun y hy => ?_
  obtain ⟨x, rfl, h2, -⟩ := onceG_mem hy
  have := hl x h2
  omega
theorem onceG_le : ∀ (l S : List Nat), (onceG l S).length ≤ l.length
  | [], _ => Nat.le_refl _
  | x :: l, S => by
    have := onceG_le l (S ++ [x])
    unfold onceG
    split <;> simp only [List.length_cons] <;> omega
def onceM (l : List Nat) : List Int := onceG l []
def OnceQ (l : List Nat) (b : Nat) (h : Hp) (r : V) (h' : Hp) : Prop := Fr b h h' ∧ Own b h' 1 r (onceM l).length (ints (onceM l))
theorem once_ok {b : Nat} {h : Hp} {v : V} {l : List Nat} (s : Sl b h 1 v l.length (u8v l)) (hx : ∀ x ∈ l, x < 256) (hb : b ≤ h.next.nat) (hl : l.length ≤ 9223372036854775807) : ∃ r h', TryF15 [v] h = .ok r h' ∧ OnceQ l b h r h' := by
  rw [TryF15_eq]
  show Tells Try.prog _ (OnceQ l b h) _
  simp (disch := omega) only [seqO_eq, thenO_nor, thenO_ret, thenO_ex, gtO_some, bndO_ok, get_set_of, cndX_tmp, ifB_true, ifB_false, ifB_pos, ifB_neg, blkO_eq, blkX_nor, blkX_ret, blkX_ex, Nat.reduceEqDiff, Nat.zero_ne_one, Nat.one_ne_zero, reduceCtorEq, ↓reduceIte, oBin_add, oBin_sub, oBin_eql, oBin_neq, oBin_lss, oBin_leq, oBin_gtr, oBin_geq, oUn_not, oPick_true, oPick_false, oExtract_0, oExtract_1, oExtract_2, oMin_eq, oMax_eq, oFieldAddr_eq, oConvInt_i64, oBin_rem, oBuildSlice_11, oBinAgg_eql2, oBinAgg_neq2, oBuildSlice_1, oBuild_2, oBuildSlice_2, chk_zero, chk_nil, bumpH_zero, aBuildSlice_1, oBuildSlice_22, alcO_some, Bool.not_true, Bool.not_false, Option.getD_some, Option.getD_none, Option.isSome_some, Option.isSome_none, Tryd15, Tryr15_0, Tryr15_1, Tryr15_2, oNew, Tryr15_3]
  have hz : ∀ cs : List V, cs = seenV [] → h.new (.cells true cs) = h.new (.cells true (seenV [])) := fun cs e => by rw [e]
  rw [hz _ (by rfl)]
  refine Oc.then (loop_rule (n := l.length) (fun m fr h' => ∃ (k : Nat) (o : V) (O : List Int), k + m = l.length ∧ fr.get (Pos.of 0) = some v ∧ fr.get (Pos.of 5) = some (.int .i64 (k : Int)) ∧ fr.get (Pos.of 4) = some (.ptr h.next 0) ∧ fr.get (Pos.of 3) = some o ∧
      h'.get h.next = some (.cells true (seenV (l.take k))) ∧ Own (h.next.nat + 1) h' 1 o O.length (ints O) ∧ Fr b h h' ∧ h.next.nat + 1 ≤ h'.next.nat ∧ O ++ onceG (l.drop k) (l.take k) = onceM l)
    (A := fun fr h' => ∃ o, fr.get (Pos.of 3) = some o ∧ Own (h.next.nat + 1) h' 1 o (onceM l).length (ints (onceM l)) ∧ Fr b h h')
    (B := fun _ _ => False) (by rw [lf_eq]; omega) ?_ ?_) ?_ ?_
  · refine ⟨0, .nils, [], by omega, ?_, ?_, ?_, ?_, by rw [new_self]; rfl, Own.nil _ _ _, Fr.new _ hb, by rw [new_next_nat]; omega, by simp [onceM]⟩
    all_goals first | (simp only [seqO_eq, thenO_nor, thenO_ret, thenO_ex, gtO_some, bndO_ok, get_set_of, cndX_tmp, ifB_true, ifB_false, ifB_pos, ifB_neg, blkO_eq, blkX_nor, blkX_ret, blkX_ex, Nat.reduceEqDiff, Nat.zero_ne_one, Nat.one_ne_zero, reduceCtorEq, ↓reduceIte, oBin_add, oBin_sub, oBin_eql, oBin_neq, oBin_lss, oBin_leq, oBin_gtr, oBin_geq, oUn_not, oPick_true, oPick_false, oExtract_0, oExtract_1, oExtract_2, oMin_eq, oMax_eq, oFieldAddr_eq, oConvInt_i64, oBin_rem, oBuildSlice_11, oBinAgg_eql2, oBinAgg_neq2, oBuildSlice_1, oBuild_2, oBuildSlice_2, chk_zero, chk_nil, bumpH_zero, aBuildSlice_1, oBuildSlice_22, alcO_some, Bool.not_true, Bool.not_false, Option.getD_some, Option.getD_none, Option.isSome_some, Option.isSome_none]; done) | (simp only [seqO_eq, thenO_nor, thenO_ret, thenO_ex, gtO_some, bndO_ok, get_set_of, cndX_tmp, ifB_true, ifB_false, ifB_pos, ifB_neg, blkO_eq, blkX_nor, blkX_ret, blkX_ex, Nat.reduceEqDiff, Nat.zero_ne_one, Nat.one_ne_zero, reduceCtorEq, ↓reduceIte, oBin_add, oBin_sub, oBin_eql, oBin_neq, oBin_lss, oBin_leq, oBin_gtr, oBin_geq, oUn_not, oPick_true, oPick_false, oExtract_0, oExtract_1, oExtract_2, oMin_eq, oMax_eq, oFieldAddr_eq, oConvInt_i64, oBin_rem, oBuildSlice_11, oBinAgg_eql2, oBinAgg_neq2, oBuildSlice_1, oBuild_2, oBuildSlice_2, chk_zero, chk_nil, bumpH_zero, aBuildSlice_1, oBuildSlice_22, alcO_some, Bool.not_true, Bool.not_false, Option.getD_some, Option.getD_none, Option.isSome_some, Option.isSome_none]; rfl)
  · rintro m fr h' ⟨k, o, O, hkm, f0, f5, f4, f3, hs, ow, frh, hnx, eO⟩
    by_cases hk : k < l.length
    · obtain ⟨i, q, e1, hib, e2⟩ := Sl.u8 s hk
      have e2' := e2 h' (frh.get i hib)
      have hx' := hx l[k] (List.getElem_mem hk)
      have hd : l.drop k = l[k] :: l.drop (k + 1) := List.drop_eq_getElem_cons hk
      have ht : l.take (k + 1) = l.take k ++ [l[k]] := by rw [List.take_add_one, List.getElem?_eq_getElem hk]; rfl
      have hlen := onceG_len hx []
      have hO : O.length ≤ 256 := by
        have : (O ++ onceG (l.drop k) (l.take k)).length ≤ 256 := by rw [eO]; exact hlen
        rw [List.length_append] at this; omega
      generalize l[k] = x at *
      have ix := fun h' => oIdxA_eq (h := h') (len := 256) (sz := 1) (o := 0) (i := h.next) (j := .u8) hx'
      simp only [Nat.zero_add, Nat.mul_one] at ix
      have ld := oLoad1_row (wr := true) (all := seenV (l.take k)) (q := x) (i := h.next) (h := h') (by rw [hs]; rfl) (seenV_get _ hx')
      have sto : ∀ g : Hp, g.get h.next = some (.cells true (seenV (l.take k))) → oStore 1 (.ptr h.next x) (.bool true) g = .ok V.undef (g.put h.next (some (.cells true (seenV (l.take (k + 1)))))) := fun g hg => by
        show hCells g h.next _ = _
        rw [hCells_row (wr := true) (all := seenV (l.take k)) (by rw [hg]; rfl)]
        have hp := putV_one (.bool true) x (seenV (l.take k)) (by simp [seenV, hx'])
        simp only [notTuple, V.cells, List.length_singleton, Nat.beq_refl, hp]
        rw [seenV_set, ht]
      rw [hd, onceG] at eO
      by_cases hm : x ∈ l.take k
      · rw [decide_eq_true hm] at ld
        rw [if_pos hm] at eO
        have st' := sto h' hs
        simp (disch := omega) only [seqO_eq, thenO_nor, thenO_ret, thenO_ex, gtO_some, bndO_ok, get_set_of, cndX_tmp, ifB_true, ifB_false, ifB_pos, ifB_neg, blkO_eq, blkX_nor, blkX_ret, blkX_ex, Nat.reduceEqDiff, Nat.zero_ne_one, Nat.one_ne_zero, reduceCtorEq, ↓reduceIte, oBin_add, oBin_sub, oBin_eql, oBin_neq, oBin_lss, oBin_leq, oBin_gtr, oBin_geq, oUn_not, oPick_true, oPick_false, oExtract_0, oExtract_1, oExtract_2, oMin_eq, oMax_eq, oFieldAddr_eq, oConvInt_i64, oBin_rem, oBuildSlice_11, oBinAgg_eql2, oBinAgg_neq2, oBuildSlice_1, oBuild_2, oBuildSlice_2, chk_zero, chk_nil, bumpH_zero, aBuildSlice_1, oBuildSlice_22, alcO_some, Bool.not_true, Bool.not_false, Option.getD_some, Option.getD_none, Option.isSome_some, Option.isSome_none, Tryb15_4, Tryr15_4, f5, f0, s.length, Tryr15_6, e1, e2', f4, ix, ld, Tryr15_8, st', Tryr15_5]
        refine ⟨m - 1, by omega, k + 1, o, O, by omega, ?_, ?_, ?_, ?_, put_self _ _ _, ow.keep (Nat.le_refl _) fun j hj _ => put_ne _ (by omega) _, frh.trans (Fr.put _ _ hb), hnx, by rw [ht]; exact eO⟩
        all_goals first | (simp only [seqO_eq, thenO_nor, thenO_ret, thenO_ex, gtO_some, bndO_ok, get_set_of, cndX_tmp, ifB_true, ifB_false, ifB_pos, ifB_neg, blkO_eq, blkX_nor, blkX_ret, blkX_ex, Nat.reduceEqDiff, Nat.zero_ne_one, Nat.one_ne_zero, reduceCtorEq, ↓reduceIte, oBin_add, oBin_sub, oBin_eql, oBin_neq, oBin_lss, oBin_leq, oBin_gtr, oBin_geq, oUn_not, oPick_true, oPick_false, oExtract_0, oExtract_1, oExtract_2, oMin_eq, oMax_eq, oFieldAddr_eq, oConvInt_i64, oBin_rem, oBuildSlice_11, oBinAgg_eql2, oBinAgg_neq2, oBuildSlice_1, oBuild_2, oBuildSlice_2, chk_zero, chk_nil, bumpH_zero, aBuildSlice_1, oBuildSlice_22, alcO_some, Bool.not_true, Bool.not_false, Option.getD_some, Option.getD_none, Option.isSome_some, Option.isSome_none, f0, f4, f3]; done) | (simp only [seqO_eq, thenO_nor, thenO_ret, thenO_ex, gtO_some, bndO_ok, get_set_of, cndX_tmp, ifB_true, ifB_false, ifB_pos, ifB_neg, blkO_eq, blkX_nor, blkX_ret, blkX_ex, Nat.reduceEqDiff, Nat.zero_ne_one, Nat.one_ne_zero, reduceCtorEq, ↓reduceIte, oBin_add, oBin_sub, oBin_eql, oBin_neq, oBin_lss, oBin_leq, oBin_gtr, oBin_geq, oUn_not, oPick_true, oPick_false, oExtract_0, oExtract_1, oExtract_2, oMin_eq, oMax_eq, oFieldAddr_eq, oConvInt_i64, oBin_rem, oBuildSlice_11, oBinAgg_eql2, oBinAgg_neq2, oBuildSlice_1, oBuild_2, oBuildSlice_2, chk_zero, chk_nil, bumpH_zero, aBuildSlice_1, oBuildSlice_22, alcO_some, Bool.not_true, Bool.not_false, Option.getD_some, Option.getD_none, Option.isSome_some, Option.isSome_none]; rfl)
      · rw [decide_eq_false hm] at ld
        rw [if_neg hm] at eO
        obtain ⟨o', h2, a1, a2, a3⟩ := append_own (bt := 8) (new := [.int .i64 (x : Int)]) ow hnx rfl (by omega)
        have e2'' := e2 h2 (by rw [a3.get i (by omega)]; exact frh.get i hib)
        have st' := sto h2 (by rw [a3.get _ (by omega)]; exact hs)
        simp (disch := omega) only [seqO_eq, thenO_nor, thenO_ret, thenO_ex, gtO_some, bndO_ok, get_set_of, cndX_tmp, ifB_true, ifB_false, ifB_pos, ifB_neg, blkO_eq, blkX_nor, blkX_ret, blkX_ex, Nat.reduceEqDiff, Nat.zero_ne_one, Nat.one_ne_zero, reduceCtorEq, ↓reduceIte, oBin_add, oBin_sub, oBin_eql, oBin_neq, oBin_lss, oBin_leq, oBin_gtr, oBin_geq, oUn_not, oPick_true, oPick_false, oExtract_0, oExtract_1, oExtract_2, oMin_eq, oMax_eq, oFieldAddr_eq, oConvInt_i64, oBin_rem, oBuildSlice_11, oBinAgg_eql2, oBinAgg_neq2, oBuildSlice_1, oBuild_2, oBuildSlice_2, chk_zero, chk_nil, bumpH_zero, aBuildSlice_1, oBuildSlice_22, alcO_some, Bool.not_true, Bool.not_false, Option.getD_some, Option.getD_none, Option.isSome_some, Option.isSome_none, Tryb15_4, Tryr15_4, f5, f0, s.length, Tryr15_6, e1, e2', f4, ix, ld, Tryr15_7, f3, a1, Tryr15_8, e2'', st', Tryr15_5]
        refine ⟨m - 1, by omega, k + 1, o', O ++ [(x : Int)], by omega, ?_, ?_, ?_, ?_, put_self _ _ _, ?_, (frh.trans (a3.le (by omega))).trans (Fr.put _ _ hb), by have := a3.next; rw [put_next]; omega, by rw [ht, ← eO]; simp⟩
        all_goals first | (simp only [seqO_eq, thenO_nor, thenO_ret, thenO_ex, gtO_some, bndO_ok, get_set_of, cndX_tmp, ifB_true, ifB_false, ifB_pos, ifB_neg, blkO_eq, blkX_nor, blkX_ret, blkX_ex, Nat.reduceEqDiff, Nat.zero_ne_one, Nat.one_ne_zero, reduceCtorEq, ↓reduceIte, oBin_add, oBin_sub, oBin_eql, oBin_neq, oBin_lss, oBin_leq, oBin_gtr, oBin_geq, oUn_not, oPick_true, oPick_false, oExtract_0, oExtract_1, oExtract_2, oMin_eq, oMax_eq, oFieldAddr_eq, oConvInt_i64, oBin_rem, oBuildSlice_11, oBinAgg_eql2, oBinAgg_neq2, oBuildSlice_1, oBuild_2, oBuildSlice_2, chk_zero, chk_nil, bumpH_zero, aBuildSlice_1, oBuildSlice_22, alcO_some, Bool.not_true, Bool.not_false, Option.getD_some, Option.getD_none, Option.isSome_some, Option.isSome_none, f0, f4]; done) | (simp only [seqO_eq, thenO_nor, thenO_ret, thenO_ex, gtO_some, bndO_ok, get_set_of, cndX_tmp, ifB_true, ifB_false, ifB_pos, ifB_neg, blkO_eq, blkX_nor, blkX_ret, blkX_ex, Nat.reduceEqDiff, Nat.zero_ne_one, Nat.one_ne_zero, reduceCtorEq, ↓reduceIte, oBin_add, oBin_sub, oBin_eql, oBin_neq, oBin_lss, oBin_leq, oBin_gtr, oBin_geq, oUn_not, oPick_true, oPick_false, oExtract_0, oExtract_1, oExtract_2, oMin_eq, oMax_eq, oFieldAddr_eq, oConvInt_i64, oBin_rem, oBuildSlice_11, oBinAgg_eql2, oBinAgg_neq2, oBuildSlice_1, oBuild_2, oBuildSlice_2, chk_zero, chk_nil, bumpH_zero, aBuildSlice_1, oBuildSlice_22, alcO_some, Bool.not_true, Bool.not_false, Option.getD_some, Option.getD_none, Option.isSome_some, Option.isSome_none]; rfl) | skip
        have := a2.keep (h' := h2.put h.next (some (.cells true (seenV (l.take (k + 1)))))) (Nat.le_refl _) fun j hj _ => put_ne _ (by omega) _
        rw [ints_append, List.length_append]; exact this
    · have hk' : k = l.length := by omega
      subst hk'
      rw [List.drop_length, onceG, List.append_nil] at eO
      subst eO
      simp (disch := omega) only [seqO_eq, thenO_nor, thenO_ret, thenO_ex, gtO_some, bndO_ok, get_set_of, cndX_tmp, ifB_true, ifB_false, ifB_pos, ifB_neg, blkO_eq, blkX_nor, blkX_ret, blkX_ex, Nat.reduceEqDiff, Nat.zero_ne_one, Nat.one_ne_zero, reduceCtorEq, ↓reduceIte, oBin_add, oBin_sub, oBin_eql, oBin_neq, oBin_lss, oBin_leq, oBin_gtr, oBin_geq, oUn_not, oPick_true, oPick_false, oExtract_0, oExtract_1, oExtract_2, oMin_eq, oMax_eq, oFieldAddr_eq, oConvInt_i64, oBin_rem, oBuildSlice_11, oBinAgg_eql2, oBinAgg_neq2, oBuildSlice_1, oBuild_2, oBuildSlice_2, chk_zero, chk_nil, bumpH_zero, aBuildSlice_1, oBuildSlice_22, alcO_some, Bool.not_true, Bool.not_false, Option.getD_some, Option.getD_none, Option.isSome_some, Option.isSome_none, Tryb15_4, Tryr15_4, f5, f0, s.length]
      exact ⟨rfl, o, by simp only [seqO_eq, thenO_nor, thenO_ret, thenO_ex, gtO_some, bndO_ok, get_set_of, cndX_tmp, ifB_true, ifB_false, ifB_pos, ifB_neg, blkO_eq, blkX_nor, blkX_ret, blkX_ex, Nat.reduceEqDiff, Nat.zero_ne_one, Nat.one_ne_zero, reduceCtorEq, ↓reduceIte, oBin_add, oBin_sub, oBin_eql, oBin_neq, oBin_lss, oBin_leq, oBin_gtr, oBin_geq, oUn_not, oPick_true, oPick_false, oExtract_0, oExtract_1, oExtract_2, oMin_eq, oMax_eq, oFieldAddr_eq, oConvInt_i64, oBin_rem, oBuildSlice_11, oBinAgg_eql2, oBinAgg_neq2, oBuildSlice_1, oBuild_2, oBuildSlice_2, chk_zero, chk_nil, bumpH_zero, aBuildSlice_1, oBuildSlice_22, alcO_some, Bool.not_true, Bool.not_false, Option.getD_some, Option.getD_none, Option.isSome_some, Option.isSome_none, f3], ow, frh⟩
  · rintro fr h' ⟨o, f3, ow, frh⟩
    simp only [seqO_eq, thenO_nor, thenO_ret, thenO_ex, gtO_some, bndO_ok, get_set_of, cndX_tmp, ifB_true, ifB_false, ifB_pos, ifB_neg, blkO_eq, blkX_nor, blkX_ret, blkX_ex, Nat.reduceEqDiff, Nat.zero_ne_one, Nat.one_ne_zero, reduceCtorEq, ↓reduceIte, oBin_add, oBin_sub, oBin_eql, oBin_neq, oBin_lss, oBin_leq, oBin_gtr, oBin_geq, oUn_not, oPick_true, oPick_false, oExtract_0, oExtract_1, oExtract_2, oMin_eq, oMax_eq, oFieldAddr_eq, oConvInt_i64, oBin_rem, oBuildSlice_11, oBinAgg_eql2, oBinAgg_neq2, oBuildSlice_1, oBuild_2, oBuildSlice_2, chk_zero, chk_nil, bumpH_zero, aBuildSlice_1, oBuildSlice_22, alcO_some, Bool.not_true, Bool.not_false, Option.getD_some, Option.getD_none, Option.isSome_some, Option.isSome_none, Tryr15_9, f3]
    refine Tells.ret (by simp only [resK, get_set_of, seqO_eq, thenO_nor, thenO_ret, thenO_ex, gtO_some, bndO_ok, get_set_of, cndX_tmp, ifB_true, ifB_false, ifB_pos, ifB_neg, blkO_eq, blkX_nor, blkX_ret, blkX_ex, Nat.reduceEqDiff, Nat.zero_ne_one, Nat.one_ne_zero, reduceCtorEq, ↓reduceIte, oBin_add, oBin_sub, oBin_eql, oBin_neq, oBin_lss, oBin_leq, oBin_gtr, oBin_geq, oUn_not, oPick_true, oPick_false, oExtract_0, oExtract_1, oExtract_2, oMin_eq, oMax_eq, oFieldAddr_eq, oConvInt_i64, oBin_rem, oBuildSlice_11, oBinAgg_eql2, oBinAgg_neq2, oBuildSlice_1, oBuild_2, oBuildSlice_2, chk_zero, chk_nil, bumpH_zero, aBuildSlice_1, oBuildSlice_22, alcO_some, Bool.not_true, Bool.not_false, Option.getD_some, Option.getD_none, Option.isSome_some, Option.isSome_none, tupR]; first | done | rfl) ⟨frh, ow.len, ow.is.imp id fun ⟨i, h1, h2, h3⟩ => ⟨i, h1, by omega, h3⟩⟩
  · intro _ _ hf; exact hf.elim
end Go.Proofs.Ytmlbnkojodkieaa

noncomputable section
namespace Go.Proofs.Ytmlbnkojodkieaa
open Go Go.Proofs Go.Vm
set_option linter.unusedVariables false
set_option maxRecDepth 100000
set_option linter.unusedSimpArgs false
/-! ### plain laws: a list becomes the other one -/
theorem keepGo_sub (now : List Int) : ∀ (l : List Int) (last : Int), -1 ≤ last → ((keepGo now l last).2).Sublist (now.drop (last + 1).toNat)
  | [], _, _ => List.nil_sublist _
  | x :: l, last, hl => by
    cases hi : now.idxOf? x with
    | none => simp only [keepGo, hi]; exact keepGo_sub now l last hl
    | some i =>
      simp only [keepGo, hi]
      split
      · rename_i hlt
        have ih := keepGo_sub now l (i : Int) (by omega)
        have hx : i < now.length ∧ now[i]? = some x := by
          have : ∀ (m : List Int) (i : Nat), m.idxOf? x = some i → m[i]? = some x := by
            intro m
            induction m with
            | nil => intro i h; cases h
            | cons a m ihm =>
              intro i h
              rw [List.idxOf?_cons] at h
              by_cases e : a = x
              · simp [e] at h; subst h; simp [e]
              · simp only [beq_iff_eq, e, if_false, Option.map_eq_some_iff] at h
                obtain ⟨j, h1, rfl⟩ := h
                simpa using ihm j h1
          have h := this now i hi
          exact ⟨(List.getElem?_eq_some_iff.1 h).1, h⟩
        have h1 : now.drop i = x :: now.drop (i + 1) := by
          rw [List.drop_eq_getElem_cons hx.1]
          have := hx.2
          rw [List.getElem?_eq_getElem hx.1] at this
          simp at this; rw [this]
        have h2 : (x :: (keepGo now l (i : Int)).2).Sublist (now.drop i) := by
          rw [h1]
          have e : ((i : Int) + 1).toNat = i + 1 := by omega
          rw [e] at ih
          exact ih.cons_cons x
        refine h2.trans ?_
        have : now.drop i = (now.drop (last + 1).toNat).drop (i - (last + 1).toNat) := by
          rw [List.drop_drop]; congr 1; omega
        rw [this]
        exact List.drop_sublist _ _
      · exact keepGo_sub now l last hl
theorem keepGo_mem (now : List Int) : ∀ (l : List Int) (last : Int), (∀ x ∈ (keepGo now l last).1, x ∈ l) ∧ ∀ x ∈ (keepGo now l last).2, x ∈ l
  | [], _ => ⟨fun _ h => h, fun _ h => h⟩
  | x :: l, last => by
    have ih := keepGo_mem now l
    unfold keepGo
    split
    · split
      · exact ⟨fun y hy => by simp [(ih _).1 y hy], fun y hy => by
          rcases List.mem_cons.1 hy with rfl | hy
          · simp
          · simp [(ih _).2 y hy]⟩
      · exact ⟨fun y hy => by
          rcases List.mem_cons.1 hy with rfl | hy
          · simp
          · simp [(ih _).1 y hy], fun y hy => by simp [(ih _).2 y hy]⟩
    · exact ⟨fun y hy => by
          rcases List.mem_cons.1 hy with rfl | hy
          · simp
          · simp [(ih _).1 y hy], fun y hy => by simp [(ih _).2 y hy]⟩
theorem keepGo_lens (now : List Int) : ∀ (l : List Int) (last : Int), (keepGo now l last).1.length + (keepGo now l last).2.length = l.length
  | [], _ => rfl
  | x :: l, last => by
    have ih := keepGo_lens now l
    unfold keepGo
    split
    · split
      · have := ih (‹Nat› : Int); simp only [List.length_cons]; omega
      · have := ih last; simp only [List.length_cons]; omega
    · have := ih last; simp only [List.length_cons]; omega
theorem filter_cons_notin {x : Int} {G l : List Int} (hx : x ∉ l) : l.filter (fun y => !decide (y ∈ x :: G)) = l.filter fun y => !decide (y ∈ G) :=
  List.filter_congr fun y hy => by
    have : y ≠ x := fun e => hx (e ▸ hy)
    simp [this]
theorem keepGo_filter (now : List Int) : ∀ (l : List Int) (last : Int), l.Nodup → l.filter (fun y => !decide (y ∈ (keepGo now l last).1)) = (keepGo now l last).2
  | [], _, _ => rfl
  | x :: l, last, hn => by
    rw [List.nodup_cons] at hn
    have ih := fun last => keepGo_filter now l last hn.2
    have hm := fun last => (keepGo_mem now l last).1
    have gone : ∀ last, (x :: l).filter (fun y => !decide (y ∈ x :: (keepGo now l last).1)) = (keepGo now l last).2 := fun last => by
      rw [List.filter_cons, if_neg (by simp), filter_cons_notin hn.1, ih]
    unfold keepGo
    split
    · split
      · rename_i i _ _
        rw [List.filter_cons, if_pos (by simp; exact fun h => hn.1 (hm _ x h)), ih]
      · exact gone last
    · exact gone last
theorem sub_filter {K y : List Int} (h : K.Sublist y) (hn : y.Nodup) : y.filter (fun x => decide (x ∈ K)) = K := by
  induction h with
  | slnil => rfl
  | cons a h ih =>
    rw [List.nodup_cons] at hn
    rw [List.filter_cons, if_neg (by simp; exact fun hk => hn.1 (h.subset hk)), ih hn.2]
  | cons_cons a h ih =>
    rename_i K y
    rw [List.nodup_cons] at hn
    rw [List.filter_cons, if_pos (by simp)]
    congr 1
    refine Eq.trans (List.filter_congr fun z hz => ?_) (ih hn.2)
    have : z ≠ a := fun e => hn.1 (e ▸ hz)
    simp [this]
theorem fold_add (K : List Int) : ∀ (l pre : List Int), (addGo K l pre.length).foldl insM (pre ++ l.filter fun x => decide (x ∈ K)) = pre ++ l
  | [], pre => by simp [addGo]
  | x :: l, pre => by
    have ih := fold_add K l (pre ++ [x])
    rw [List.length_append, List.length_singleton] at ih
    by_cases hx : x ∈ K
    · rw [addGo, if_pos hx, List.filter_cons, if_pos (by simpa using hx)]
      simpa using ih
    · rw [addGo, if_neg hx, List.filter_cons, if_neg (by simpa using hx), List.foldl_cons]
      have hi : insN (pre ++ l.filter fun x => decide (x ∈ K)).length (pre.length : Int) = pre.length := by unfold insN; rw [List.length_append]; omega
      have : insM (pre ++ l.filter fun x => decide (x ∈ K)) (x, (pre.length : Int)) = pre ++ [x] ++ l.filter fun x => decide (x ∈ K) := by
        unfold insM
        simp only [hi, List.take_left, List.drop_left]
        simp
      rw [this, ih]; simp
theorem addGo_lens (K : List Int) : ∀ (l : List Int) (i : Nat), (addGo K l i).length + (l.filter fun x => decide (x ∈ K)).length = l.length
  | [], _ => rfl
  | x :: l, i => by
    have ih := addGo_lens K l (i + 1)
    by_cases hx : x ∈ K <;> simp [addGo, hx] <;> omega
theorem addGo_at (K : List Int) : ∀ (l : List Int) (i : Nat) (p : Int × Int), p ∈ addGo K l i → ∃ j : Nat, p.2 = ((i + j : Nat) : Int) ∧ l[j]? = some p.1
  | [], _, _, h => by cases h
  | x :: l, i, p, h => by
    unfold addGo at h
    split at h
    · obtain ⟨j, h1, h2⟩ := addGo_at K l (i + 1) p h
      exact ⟨j + 1, by omega, by simpa using h2⟩
    · rcases List.mem_cons.1 h with rfl | h
      · exact ⟨0, by simp, by simp⟩
      · obtain ⟨j, h1, h2⟩ := addGo_at K l (i + 1) p h
        exact ⟨j + 1, by omega, by simpa using h2⟩
theorem makes_law {x y : List Int} (hx : x.Nodup) (hy : y.Nodup) : applyM x (diffM x y).1 (diffM x y).2 = y ∧ (x.length : Int) - (diffM x y).1.length = y.length - (diffM x y).2.length ∧ ∀ p ∈ (diffM x y).2, ∃ j : Nat, p.2 = (j : Int) ∧ y[j]? = some p.1 := by
  rw [diffM, if_pos ⟨hx, hy⟩]
  simp only []
  have h1 := keepGo_filter y x (-1) hx
  have h2 := sub_filter (keepGo_sub y x (-1) (by omega)) (by simpa using hy)
  have h3 := keepGo_lens y x (-1)
  simp only [Int.reduceNeg, Int.reduceAdd, Int.toNat_zero, List.drop_zero] at h2
  generalize (keepGo y x (-1)).2 = K at *
  generalize (keepGo y x (-1)).1 = G at *
  have h4 := addGo_lens K y 0
  rw [h2] at h4
  refine ⟨?_, by omega, fun p hp => ?_⟩
  · have := fold_add K y []
    simp only [List.nil_append, List.length_nil, h2] at this
    rw [applyM, h1, this]
  · obtain ⟨j, h5, h6⟩ := addGo_at K y 0 p hp
    exact ⟨j, by rw [h5]; congr 1; omega, h6⟩
theorem same_law {x : List Int} (hx : x.Nodup) : diffM x x = ([], []) := by
  have hf : x.filter (fun _ => !false) = x := List.filter_eq_self.2 fun _ _ => rfl
  have hK := keepGo_row (fun _ => false) x hx x [] [] (-1) (by simp only [List.nil_append, List.append_nil]; exact hf.symm) (fun _ _ h => by cases h) (by simp)
  rw [diffM, if_pos ⟨hx, hx⟩, hK]
  simp only [hf]
  rw [addGo_all _ _ _ (fun y hy => hy)]
  simp
end Go.Proofs.Ytmlbnkojodkieaa

noncomputable section
namespace Go.Proofs.Ytmlbnkojodkieaa
open Go Go.Proofs Go.Vm
set_option linter.unusedVariables false
set_option maxRecDepth 100000
set_option linter.unusedSimpArgs false
/-- a cut of a row of one's own -/
theorem Own.cut {b : Nat} {h : Hp} {v : V} {n lo hi : Nat} {cs : List V} (s : Own b h 1 v n cs) (h0 : 0 < lo) (h1 : lo ≤ hi) (h2 : hi ≤ n) :
    ∃ v', (∀ h', oSlice 1 v (some (.int .i64 (lo : Int))) (some (.int .i64 (hi : Int))) none h' = .ok v' h') ∧ (hi = n → ∀ h', oSlice 1 v (some (.int .i64 (lo : Int))) none none h' = .ok v' h') ∧ Sl h.next.nat h 1 v' (hi - lo) ((cs.drop lo).take (hi - lo)) := by
  have hl := s.len
  have hlen : ((cs.drop lo).take (hi - lo)).length = (hi - lo) * 1 := by simp; omega
  rcases s.is with ⟨h3, _⟩ | ⟨i, rfl, hbi, hi', hg⟩
  · omega
  · obtain ⟨l, rfl⟩ : ∃ l, lo = l + 1 := ⟨lo - 1, by omega⟩
    have key : ∀ (hx : Option V) h', (hx = some (.int .i64 (hi : Int)) ∨ hx = none ∧ hi = n) → oSlice 1 (.slice i 0 n (.un 1)) (some (.int .i64 ((l + 1 : Nat) : Int))) hx none h' = (match Nat.blt (l + 1) n with
        | true => .ok (.slice i (0 + (l + 1) * 1) (hi - (l + 1)) (.un 1)) h'
        | false => .ok .emp h') := fun hx h' hh => by
      have e1 : Nat.ble hi n = true := Nat.ble_eq_true_of_le h2
      have e2 : Nat.ble (l + 1) hi = true := Nat.ble_eq_true_of_le h1
      have e0 : okMax none hx = true := rfl
      have h3 : oSlice 1 (.slice i 0 n (.un 1)) (some (.int .i64 ((l + 1 : Nat) : Int))) hx none h' = sliceUn 1 i 0 n 1 (some (.int .i64 ((l + 1 : Nat) : Int))) hx h' := rfl
      rw [h3]
      unfold sliceUn
      rcases hh with rfl | ⟨rfl, rfl⟩
      · show (match Nat.ble hi n, Nat.ble (l + 1) hi, Nat.beq 1 1 with
          | true, true, true => (match Nat.blt (l + 1) n with
              | true => forceNat (0 + (l + 1) * 1) fun q => forceNat (hi - (l + 1)) fun m => R.ok (V.slice i q m (.un 1)) h'
              | false => .ok .emp h')
          | _, _, _ => .bad) = _
        rw [e1, e2]
        simp only [forceNat_eq, Nat.beq_refl]
      · show (match Nat.ble hi hi, Nat.ble (l + 1) hi, Nat.beq 1 1 with
          | true, true, true => (match Nat.blt (l + 1) hi with
              | true => forceNat (0 + (l + 1) * 1) fun q => forceNat (hi - (l + 1)) fun m => R.ok (V.slice i q m (.un 1)) h'
              | false => .ok .emp h')
          | _, _, _ => .bad) = _
        rw [e1, e2]
        simp only [forceNat_eq, Nat.beq_refl]
    by_cases hlt : l + 1 < n
    · have hb : Nat.blt (l + 1) n = true := by simpa [Nat.blt_eq] using hlt
      rw [hb] at key
      refine ⟨_, fun h' => key _ h' (.inl rfl), fun e h' => key _ h' (.inr ⟨rfl, e⟩), hlen, .inr ⟨i, _, _, true, cs, rfl, hi', by rw [hg]; rfl, fun k hk => ?_⟩⟩
      rw [List.getElem?_take, if_pos (by omega), List.getElem?_drop]
      congr 1; omega
    · have hb : Nat.blt (l + 1) n = false := by rw [← Bool.not_eq_true]; simpa [Nat.blt_eq] using hlt
      rw [hb] at key
      exact ⟨_, fun h' => key _ h' (.inl rfl), fun e h' => key _ h' (.inr ⟨rfl, e⟩), hlen, .inl ⟨by omega, .inr rfl⟩⟩
theorem ints_drop (l : List Int) (k : Nat) : (ints l).drop k = ints (l.drop k) := by simp [ints]
theorem ints_take (l : List Int) (k : Nat) : (ints l).take k = ints (l.take k) := by simp [ints]
/-! ### DiffTurned -/
theorem tmod_nat' (n m : Nat) : (n : Int).tmod (m : Int) = ((n % m : Nat) : Int) := by rw [Int.tmod_eq_emod_of_nonneg (by omega)]; simp
def rowX (k : Nat) : List Int := (List.range k).map fun (i : Nat) => (i : Int)
def rowY (K k : Nat) : List Int := (List.range k).map fun (i : Nat) => (K : Int) - 1 - (i : Int)
theorem rowX_succ (k : Nat) : rowX (k + 1) = rowX k ++ [(k : Int)] := by simp [rowX, List.range_succ]
theorem rowY_succ (K k : Nat) : rowY K (k + 1) = rowY K k ++ [(K : Int) - 1 - (k : Int)] := by simp [rowY, List.range_succ]
theorem rowX_len (k : Nat) : (rowX k).length = k := by simp [rowX]
theorem rowY_len (K k : Nat) : (rowY K k).length = k := by simp [rowY]
theorem rowX_nodup (k : Nat) : (rowX k).Nodup := nodup_map_range _ (fun i j h => by omega) k
theorem rowY_nodup (K k : Nat) : (rowY K k).Nodup := nodup_map_range _ (fun i j h => by omega) k
theorem idxOf?_lt (m : List Int) (x : Int) : ∀ i, m.idxOf? x = some i → i < m.length := by
  induction m with
  | nil => intro i h; cases h
  | cons a m ih =>
    intro i h
    rw [List.idxOf?_cons] at h
    by_cases e : a = x
    · simp [e] at h; subst h; simp
    · simp only [beq_iff_eq, e, if_false, Option.map_eq_some_iff] at h
      obtain ⟨j, h1, rfl⟩ := h
      have := ih j h1
      simp; omega
theorem keepGo_gone (now : List Int) : ∀ (l : List Int) (last : Int), (now.length : Int) ≤ last + 1 → keepGo now l last = (l, [])
  | [], _, _ => rfl
  | x :: l, last, h => by
    have ih := keepGo_gone now l last h
    cases hi : now.idxOf? x with
    | none => simp [keepGo, hi, ih]
    | some i =>
      have := idxOf?_lt now x i hi
      simp only [keepGo, hi, ih]
      rw [if_neg (by omega)]
theorem turned_law (k : Nat) (hk : 0 < k) : (diffM (rowX k) (rowY k k)).1 = (rowX k).drop 1 := by
  rw [diffM, if_pos ⟨rowX_nodup k, rowY_nodup k k⟩]
  simp only []
  obtain ⟨j, rfl⟩ : ∃ j, k = j + 1 := ⟨k - 1, by omega⟩
  have h0 : rowX (j + 1) = 0 :: (rowX (j + 1)).drop 1 := by simp [rowX, List.range_succ_eq_map]
  have hi : (rowY (j + 1) (j + 1)).idxOf? 0 = some j := by
    have e : rowY (j + 1) (j + 1) = rowY (j + 1) j ++ 0 :: [] := by rw [rowY_succ]; simp
    have := idxOf?_mid (rowY (j + 1) j) 0 [] (fun h => by
      simp only [rowY, List.mem_map, List.mem_range] at h
      obtain ⟨i, h1, h2⟩ := h
      omega)
    rw [← e, rowY_len] at this
    exact this
  conv => lhs; rw [h0]
  rw [keepGo, hi]
  simp only []
  rw [if_pos (by omega), keepGo_gone _ _ _ (by rw [rowY_len]; omega)]
theorem turned_ok {b : Nat} {h : Hp} {n : Nat} (hn : n < 256) (hb : b ≤ h.next.nat) : ∃ h', TryF7 [.int .u8 (n : Int)] h = .ok (.bool true) h' := by
  have : Tells Try.prog [.tmp 2] (fun r _ => r = .bool true) (Tryd7 (T.set (some (.int .u8 (n : Int))) (Pos.of 0) T.nil) h) := by
    have hk : (n : Int).tmod 60 = ((n % 60 : Nat) : Int) := tmod_nat' n 60
    have hK : n % 60 < 60 := Nat.mod_lt _ (by omega)
    simp (disch := omega) only [seqO_eq, thenO_nor, thenO_ret, thenO_ex, gtO_some, bndO_ok, get_set_of, cndX_tmp, ifB_true, ifB_false, ifB_pos, ifB_neg, blkO_eq, blkX_nor, blkX_ret, blkX_ex, Nat.reduceEqDiff, Nat.zero_ne_one, Nat.one_ne_zero, reduceCtorEq, ↓reduceIte, oBin_add, oBin_sub, oBin_eql, oBin_neq, oBin_lss, oBin_leq, oBin_gtr, oBin_geq, oUn_not, oPick_true, oPick_false, oExtract_0, oExtract_1, oExtract_2, oMin_eq, oMax_eq, oFieldAddr_eq, oConvInt_i64, oBin_rem, oBuildSlice_11, oBinAgg_eql2, oBinAgg_neq2, oBuildSlice_1, oBuild_2, oBuildSlice_2, chk_zero, chk_nil, bumpH_zero, aBuildSlice_1, oBuildSlice_22, alcO_some, Bool.not_true, Bool.not_false, Option.getD_some, Option.getD_none, Option.isSome_some, Option.isSome_none, Tryd7, Tryr7_0, Tryr7_1, hk, Tryr7_2, Tryr7_3]
    generalize n % 60 = K at *
    refine Oc.then (loop_rule (n := K) (fun m fr h' => ∃ (k : Nat) (x y : V), k + m = K ∧ fr.get (Pos.of 6) = some (.int .i64 (k : Int)) ∧ fr.get (Pos.of 3) = some (.int .i64 (K : Int)) ∧ fr.get (Pos.of 4) = some x ∧ fr.get (Pos.of 5) = some y ∧
        Own h.next.nat h' 1 x (rowX k).length (ints (rowX k)) ∧ Own h.next.nat h' 1 y (rowY K k).length (ints (rowY K k)) ∧ Sep x y ∧ Fr h.next.nat h h')
      (A := fun fr h' => ∃ (x y : V), fr.get (Pos.of 3) = some (.int .i64 (K : Int)) ∧ fr.get (Pos.of 4) = some x ∧ fr.get (Pos.of 5) = some y ∧
        Own h.next.nat h' 1 x (rowX K).length (ints (rowX K)) ∧ Own h.next.nat h' 1 y (rowY K K).length (ints (rowY K K)) ∧ Fr h.next.nat h h')
      (B := fun _ _ => False) (by rw [lf_eq]; omega) ?_ ?_) ?_ ?_
    · refine ⟨0, .nils, .nils, by omega, ?_, ?_, ?_, ?_, Own.nil _ _ _, Own.nil _ _ _, Sep.nil _, Fr.refl _ _⟩
      all_goals first | (simp only [seqO_eq, thenO_nor, thenO_ret, thenO_ex, gtO_some, bndO_ok, get_set_of, cndX_tmp, ifB_true, ifB_false, ifB_pos, ifB_neg, blkO_eq, blkX_nor, blkX_ret, blkX_ex, Nat.reduceEqDiff, Nat.zero_ne_one, Nat.one_ne_zero, reduceCtorEq, ↓reduceIte, oBin_add, oBin_sub, oBin_eql, oBin_neq, oBin_lss, oBin_leq, oBin_gtr, oBin_geq, oUn_not, oPick_true, oPick_false, oExtract_0, oExtract_1, oExtract_2, oMin_eq, oMax_eq, oFieldAddr_eq, oConvInt_i64, oBin_rem, oBuildSlice_11, oBinAgg_eql2, oBinAgg_neq2, oBuildSlice_1, oBuild_2, oBuildSlice_2, chk_zero, chk_nil, bumpH_zero, aBuildSlice_1, oBuildSlice_22, alcO_some, Bool.not_true, Bool.not_false, Option.getD_some, Option.getD_none, Option.isSome_some, Option.isSome_none]; done) | (simp only [seqO_eq, thenO_nor, thenO_ret, thenO_ex, gtO_some, bndO_ok, get_set_of, cndX_tmp, ifB_true, ifB_false, ifB_pos, ifB_neg, blkO_eq, blkX_nor, blkX_ret, blkX_ex, Nat.reduceEqDiff, Nat.zero_ne_one, Nat.one_ne_zero, reduceCtorEq, ↓reduceIte, oBin_add, oBin_sub, oBin_eql, oBin_neq, oBin_lss, oBin_leq, oBin_gtr, oBin_geq, oUn_not, oPick_true, oPick_false, oExtract_0, oExtract_1, oExtract_2, oMin_eq, oMax_eq, oFieldAddr_eq, oConvInt_i64, oBin_rem, oBuildSlice_11, oBinAgg_eql2, oBinAgg_neq2, oBuildSlice_1, oBuild_2, oBuildSlice_2, chk_zero, chk_nil, bumpH_zero, aBuildSlice_1, oBuildSlice_22, alcO_some, Bool.not_true, Bool.not_false, Option.getD_some, Option.getD_none, Option.isSome_some, Option.isSome_none]; rfl)
    · rintro m fr h' ⟨k, x, y, hkm, f6, f3, f4, f5, ox, oy, sxy, frh⟩
      by_cases hlt : k < K
      · have lx := rowX_len k
        have ly := rowY_len K k
        obtain ⟨x', h1, a1, a2, a3, a4⟩ := append_own2 (bt := 8) (new := [.int .i64 (k : Int)]) ox frh.next rfl (by omega)
        obtain ⟨oy1, sxy1⟩ := a4 _ _ _ _ oy sxy
        have ex : Own h.next.nat h1 1 x' (rowX (k + 1)).length (ints (rowX (k + 1))) := by rw [rowX_succ, ints_append, List.length_append]; exact a2
        have f1 := frh.trans a3
        obtain ⟨y', h2, b1, b2, b3, b4⟩ := append_own2 (bt := 8) (new := [.int .i64 ((K : Int) - 1 - (k : Int))]) oy1 f1.next rfl (by omega)
        obtain ⟨ox2, syx2⟩ := b4 _ _ _ _ ex sxy1.symm
        simp (disch := omega) only [seqO_eq, thenO_nor, thenO_ret, thenO_ex, gtO_some, bndO_ok, get_set_of, cndX_tmp, ifB_true, ifB_false, ifB_pos, ifB_neg, blkO_eq, blkX_nor, blkX_ret, blkX_ex, Nat.reduceEqDiff, Nat.zero_ne_one, Nat.one_ne_zero, reduceCtorEq, ↓reduceIte, oBin_add, oBin_sub, oBin_eql, oBin_neq, oBin_lss, oBin_leq, oBin_gtr, oBin_geq, oUn_not, oPick_true, oPick_false, oExtract_0, oExtract_1, oExtract_2, oMin_eq, oMax_eq, oFieldAddr_eq, oConvInt_i64, oBin_rem, oBuildSlice_11, oBinAgg_eql2, oBinAgg_neq2, oBuildSlice_1, oBuild_2, oBuildSlice_2, chk_zero, chk_nil, bumpH_zero, aBuildSlice_1, oBuildSlice_22, alcO_some, Bool.not_true, Bool.not_false, Option.getD_some, Option.getD_none, Option.isSome_some, Option.isSome_none, Tryb7_4, Tryr7_4, f6, f3, Tryr7_6, f4, a1, Tryr7_7, f5, b1, Tryr7_5]
        refine ⟨m - 1, by omega, k + 1, x', y', by omega, ?_, ?_, ?_, ?_, ox2, by rw [rowY_succ, ints_append, List.length_append]; exact b2, syx2.symm, f1.trans b3⟩
        all_goals first | (simp only [seqO_eq, thenO_nor, thenO_ret, thenO_ex, gtO_some, bndO_ok, get_set_of, cndX_tmp, ifB_true, ifB_false, ifB_pos, ifB_neg, blkO_eq, blkX_nor, blkX_ret, blkX_ex, Nat.reduceEqDiff, Nat.zero_ne_one, Nat.one_ne_zero, reduceCtorEq, ↓reduceIte, oBin_add, oBin_sub, oBin_eql, oBin_neq, oBin_lss, oBin_leq, oBin_gtr, oBin_geq, oUn_not, oPick_true, oPick_false, oExtract_0, oExtract_1, oExtract_2, oMin_eq, oMax_eq, oFieldAddr_eq, oConvInt_i64, oBin_rem, oBuildSlice_11, oBinAgg_eql2, oBinAgg_neq2, oBuildSlice_1, oBuild_2, oBuildSlice_2, chk_zero, chk_nil, bumpH_zero, aBuildSlice_1, oBuildSlice_22, alcO_some, Bool.not_true, Bool.not_false, Option.getD_some, Option.getD_none, Option.isSome_some, Option.isSome_none, f3]; done) | (simp only [seqO_eq, thenO_nor, thenO_ret, thenO_ex, gtO_some, bndO_ok, get_set_of, cndX_tmp, ifB_true, ifB_false, ifB_pos, ifB_neg, blkO_eq, blkX_nor, blkX_ret, blkX_ex, Nat.reduceEqDiff, Nat.zero_ne_one, Nat.one_ne_zero, reduceCtorEq, ↓reduceIte, oBin_add, oBin_sub, oBin_eql, oBin_neq, oBin_lss, oBin_leq, oBin_gtr, oBin_geq, oUn_not, oPick_true, oPick_false, oExtract_0, oExtract_1, oExtract_2, oMin_eq, oMax_eq, oFieldAddr_eq, oConvInt_i64, oBin_rem, oBuildSlice_11, oBinAgg_eql2, oBinAgg_neq2, oBuildSlice_1, oBuild_2, oBuildSlice_2, chk_zero, chk_nil, bumpH_zero, aBuildSlice_1, oBuildSlice_22, alcO_some, Bool.not_true, Bool.not_false, Option.getD_some, Option.getD_none, Option.isSome_some, Option.isSome_none]; rfl)
      · have : k = K := by omega
        subst this
        simp (disch := omega) only [seqO_eq, thenO_nor, thenO_ret, thenO_ex, gtO_some, bndO_ok, get_set_of, cndX_tmp, ifB_true, ifB_false, ifB_pos, ifB_neg, blkO_eq, blkX_nor, blkX_ret, blkX_ex, Nat.reduceEqDiff, Nat.zero_ne_one, Nat.one_ne_zero, reduceCtorEq, ↓reduceIte, oBin_add, oBin_sub, oBin_eql, oBin_neq, oBin_lss, oBin_leq, oBin_gtr, oBin_geq, oUn_not, oPick_true, oPick_false, oExtract_0, oExtract_1, oExtract_2, oMin_eq, oMax_eq, oFieldAddr_eq, oConvInt_i64, oBin_rem, oBuildSlice_11, oBinAgg_eql2, oBinAgg_neq2, oBuildSlice_1, oBuild_2, oBuildSlice_2, chk_zero, chk_nil, bumpH_zero, aBuildSlice_1, oBuildSlice_22, alcO_some, Bool.not_true, Bool.not_false, Option.getD_some, Option.getD_none, Option.isSome_some, Option.isSome_none, Tryb7_4, Tryr7_4, f6, f3]
        exact ⟨rfl, x, y, by simp only [seqO_eq, thenO_nor, thenO_ret, thenO_ex, gtO_some, bndO_ok, get_set_of, cndX_tmp, ifB_true, ifB_false, ifB_pos, ifB_neg, blkO_eq, blkX_nor, blkX_ret, blkX_ex, Nat.reduceEqDiff, Nat.zero_ne_one, Nat.one_ne_zero, reduceCtorEq, ↓reduceIte, oBin_add, oBin_sub, oBin_eql, oBin_neq, oBin_lss, oBin_leq, oBin_gtr, oBin_geq, oUn_not, oPick_true, oPick_false, oExtract_0, oExtract_1, oExtract_2, oMin_eq, oMax_eq, oFieldAddr_eq, oConvInt_i64, oBin_rem, oBuildSlice_11, oBinAgg_eql2, oBinAgg_neq2, oBuildSlice_1, oBuild_2, oBuildSlice_2, chk_zero, chk_nil, bumpH_zero, aBuildSlice_1, oBuildSlice_22, alcO_some, Bool.not_true, Bool.not_false, Option.getD_some, Option.getD_none, Option.isSome_some, Option.isSome_none, f3], by simp only [seqO_eq, thenO_nor, thenO_ret, thenO_ex, gtO_some, bndO_ok, get_set_of, cndX_tmp, ifB_true, ifB_false, ifB_pos, ifB_neg, blkO_eq, blkX_nor, blkX_ret, blkX_ex, Nat.reduceEqDiff, Nat.zero_ne_one, Nat.one_ne_zero, reduceCtorEq, ↓reduceIte, oBin_add, oBin_sub, oBin_eql, oBin_neq, oBin_lss, oBin_leq, oBin_gtr, oBin_geq, oUn_not, oPick_true, oPick_false, oExtract_0, oExtract_1, oExtract_2, oMin_eq, oMax_eq, oFieldAddr_eq, oConvInt_i64, oBin_rem, oBuildSlice_11, oBinAgg_eql2, oBinAgg_neq2, oBuildSlice_1, oBuild_2, oBuildSlice_2, chk_zero, chk_nil, bumpH_zero, aBuildSlice_1, oBuildSlice_22, alcO_some, Bool.not_true, Bool.not_false, Option.getD_some, Option.getD_none, Option.isSome_some, Option.isSome_none, f4], by simp only [seqO_eq, thenO_nor, thenO_ret, thenO_ex, gtO_some, bndO_ok, get_set_of, cndX_tmp, ifB_true, ifB_false, ifB_pos, ifB_neg, blkO_eq, blkX_nor, blkX_ret, blkX_ex, Nat.reduceEqDiff, Nat.zero_ne_one, Nat.one_ne_zero, reduceCtorEq, ↓reduceIte, oBin_add, oBin_sub, oBin_eql, oBin_neq, oBin_lss, oBin_leq, oBin_gtr, oBin_geq, oUn_not, oPick_true, oPick_false, oExtract_0, oExtract_1, oExtract_2, oMin_eq, oMax_eq, oFieldAddr_eq, oConvInt_i64, oBin_rem, oBuildSlice_11, oBinAgg_eql2, oBinAgg_neq2, oBuildSlice_1, oBuild_2, oBuildSlice_2, chk_zero, chk_nil, bumpH_zero, aBuildSlice_1, oBuildSlice_22, alcO_some, Bool.not_true, Bool.not_false, Option.getD_some, Option.getD_none, Option.isSome_some, Option.isSome_none, f5], ox, oy, frh⟩
    · rintro fr h' ⟨x, y, f3, f4, f5, ox, oy, frh⟩
      have lx := rowX_len K
      have ly := rowY_len K K
      obtain ⟨r1, h1, p1, f1, g, a, rfl, sg, sa⟩ := diff_ok ox.sl oy.sl (Nat.le_refl _) (by omega) (by omega)
      obtain ⟨mk1, mk2, -⟩ := makes_law (rowX_nodup K) (rowY_nodup K K)
      obtain ⟨g0, p0, -⟩ := awake_ok h1
      by_cases hz : K = 0
      · subst hz
        have e0 : diffM (rowX 0) (rowY 0 0) = ([], []) := by decide
        rw [e0] at sg sa
        have z1 := sg.length (h' := h1)
        have z2 := sa.length (h' := h1)
        simp only [List.length_nil, Int.natCast_zero] at z1 z2
        simp (disch := omega) only [seqO_eq, thenO_nor, thenO_ret, thenO_ex, gtO_some, bndO_ok, get_set_of, cndX_tmp, ifB_true, ifB_false, ifB_pos, ifB_neg, blkO_eq, blkX_nor, blkX_ret, blkX_ex, Nat.reduceEqDiff, Nat.zero_ne_one, Nat.one_ne_zero, reduceCtorEq, ↓reduceIte, oBin_add, oBin_sub, oBin_eql, oBin_neq, oBin_lss, oBin_leq, oBin_gtr, oBin_geq, oUn_not, oPick_true, oPick_false, oExtract_0, oExtract_1, oExtract_2, oMin_eq, oMax_eq, oFieldAddr_eq, oConvInt_i64, oBin_rem, oBuildSlice_11, oBinAgg_eql2, oBinAgg_neq2, oBuildSlice_1, oBuild_2, oBuildSlice_2, chk_zero, chk_nil, bumpH_zero, aBuildSlice_1, oBuildSlice_22, alcO_some, Bool.not_true, Bool.not_false, Option.getD_some, Option.getD_none, Option.isSome_some, Option.isSome_none, Tryr7_8, f4, f5, p1, Tryr7_9, f3, Int.natCast_zero, Tryr7_10, z1, z2, p0]
        exact Tells.ret (by simp only [resK, get_set_of, seqO_eq, thenO_nor, thenO_ret, thenO_ex, gtO_some, bndO_ok, get_set_of, cndX_tmp, ifB_true, ifB_false, ifB_pos, ifB_neg, blkO_eq, blkX_nor, blkX_ret, blkX_ex, Nat.reduceEqDiff, Nat.zero_ne_one, Nat.one_ne_zero, reduceCtorEq, ↓reduceIte, oBin_add, oBin_sub, oBin_eql, oBin_neq, oBin_lss, oBin_leq, oBin_gtr, oBin_geq, oUn_not, oPick_true, oPick_false, oExtract_0, oExtract_1, oExtract_2, oMin_eq, oMax_eq, oFieldAddr_eq, oConvInt_i64, oBin_rem, oBuildSlice_11, oBinAgg_eql2, oBinAgg_neq2, oBuildSlice_1, oBuild_2, oBuildSlice_2, chk_zero, chk_nil, bumpH_zero, aBuildSlice_1, oBuildSlice_22, alcO_some, Bool.not_true, Bool.not_false, Option.getD_some, Option.getD_none, Option.isSome_some, Option.isSome_none, tupR]; first | done | rfl) rfl
      · have tl := turned_law K (by omega)
        have kl : (diffM (rowX K) (rowY K K)).1.length = K - 1 := by rw [tl]; simp [rowX_len]
        have al : (diffM (rowX K) (rowY K K)).2.length = K - 1 := by omega
        obtain ⟨v', c1, c2, c3⟩ := Own.cut ox (lo := 1) (hi := (rowX K).length) (by omega) (by omega) (Nat.le_refl _)
        have c2' := c2 rfl h1
        have hsl : Sl h1.next.nat h1 1 v' ((rowX K).drop 1).length (ints ((rowX K).drop 1)) := by
          have : ((rowX K).drop 1).length = (rowX K).length - 1 := by simp
          rw [this]
          have e : ((ints (rowX K)).drop 1).take ((rowX K).length - 1) = ints ((rowX K).drop 1) := by
            rw [ints_drop, List.take_of_length_le (by rw [ints_length]; simp)]
          rw [e] at c3
          exact (c3.fr f1).le f1.next
        have sg' : Sl h1.next.nat h1 1 g ((rowX K).drop 1).length (ints ((rowX K).drop 1)) := by rw [← tl]; exact sg
        have q1 := ints_ok sg' hsl (by rw [List.length_drop]; omega)
        rw [decide_eq_true rfl] at q1
        have sx1 := (ox.sl.fr f1).le f1.next
        have sy1 := (oy.sl.fr f1).le f1.next
        obtain ⟨r2, h2, p2, f2, s2⟩ := apply_ok sx1 sg sa (Nat.le_refl _) (by omega) (by omega) (by omega)
        rw [mk1] at s2
        have q2 := ints_ok s2.sl ((sy1.fr f2).le f2.next) (by omega)
        rw [decide_eq_true rfl] at q2
        obtain ⟨g3, p3, -⟩ := awake_ok h2
        have z2 := sa.length (h' := h1)
        rw [al] at z2
        simp only [Int.natCast_one] at c2'
        simp (disch := omega) only [seqO_eq, thenO_nor, thenO_ret, thenO_ex, gtO_some, bndO_ok, get_set_of, cndX_tmp, ifB_true, ifB_false, ifB_pos, ifB_neg, blkO_eq, blkX_nor, blkX_ret, blkX_ex, Nat.reduceEqDiff, Nat.zero_ne_one, Nat.one_ne_zero, reduceCtorEq, ↓reduceIte, oBin_add, oBin_sub, oBin_eql, oBin_neq, oBin_lss, oBin_leq, oBin_gtr, oBin_geq, oUn_not, oPick_true, oPick_false, oExtract_0, oExtract_1, oExtract_2, oMin_eq, oMax_eq, oFieldAddr_eq, oConvInt_i64, oBin_rem, oBuildSlice_11, oBinAgg_eql2, oBinAgg_neq2, oBuildSlice_1, oBuild_2, oBuildSlice_2, chk_zero, chk_nil, bumpH_zero, aBuildSlice_1, oBuildSlice_22, alcO_some, Bool.not_true, Bool.not_false, Option.getD_some, Option.getD_none, Option.isSome_some, Option.isSome_none, Tryr7_8, f4, f5, p1, Tryr7_9, f3, Tryr7_11, c2', q1, z2, p2, q2, p3]
        exact Tells.ret (by simp only [resK, get_set_of, seqO_eq, thenO_nor, thenO_ret, thenO_ex, gtO_some, bndO_ok, get_set_of, cndX_tmp, ifB_true, ifB_false, ifB_pos, ifB_neg, blkO_eq, blkX_nor, blkX_ret, blkX_ex, Nat.reduceEqDiff, Nat.zero_ne_one, Nat.one_ne_zero, reduceCtorEq, ↓reduceIte, oBin_add, oBin_sub, oBin_eql, oBin_neq, oBin_lss, oBin_leq, oBin_gtr, oBin_geq, oUn_not, oPick_true, oPick_false, oExtract_0, oExtract_1, oExtract_2, oMin_eq, oMax_eq, oFieldAddr_eq, oConvInt_i64, oBin_rem, oBuildSlice_11, oBinAgg_eql2, oBinAgg_neq2, oBuildSlice_1, oBuild_2, oBuildSlice_2, chk_zero, chk_nil, bumpH_zero, aBuildSlice_1, oBuildSlice_22, alcO_some, Bool.not_true, Bool.not_false, Option.getD_some, Option.getD_none, Option.isSome_some, Option.isSome_none, tupR]; first | done | rfl) rfl
    · intro _ _ hf; exact hf.elim
  obtain ⟨r, h', e, rfl⟩ := this
  exact ⟨h', by rw [TryF7_eq]; exact e⟩
end Go.Proofs.Ytmlbnkojodkieaa
