/- Part of the value machine, or of a walk by it: lemmas that the claim's last text uses. No conditions. -/
import Derived.Test.YtmlbnkojodkieaaChecked
import Derived.KernelRfl
import Derived.Test.YtmlbnkojodkieaaDiffA
set_option linter.unusedVariables false
set_option linter.unusedSimpArgs false
set_option linter.unnecessarySimpa false
noncomputable section
namespace Go.Proofs.Ytmlbnkojodkieaa
open Go Go.Proofs Go.Vm
set_option linter.unusedVariables false
set_option maxRecDepth 100000
set_option linter.unusedSimpArgs false
def bools (l : List Bool) : List V := l.map V.bool
theorem Sl.bools {b : Nat} {h : Hp} {v : V} {l : List Bool} (s : Sl b h 1 v l.length (bools l)) {k : Nat} (hk : k < l.length) : ∃ i q, (∀ h', oIdxS 1 v (.int .i64 (k : Int)) h' = .ok (.ptr i q) h') ∧ i.nat < b ∧ ∀ h', h'.get i = h.get i → oLoad1 (.ptr i q) h' = .ok (.bool l[k]) h' := by
  obtain ⟨i, q, x, hx, e1, hib, e2⟩ := s.at1 hk
  have : (Go.Proofs.Ytmlbnkojodkieaa.bools l)[k]? = some (.bool l[k]) := by simp [Go.Proofs.Ytmlbnkojodkieaa.bools, hk]
  rw [this] at hx
  cases hx
  exact ⟨i, q, e1, hib, e2⟩
theorem tmod_nat (n m : Nat) : (n : Int).tmod (m : Int) = ((n % m : Nat) : Int) := by rw [Int.tmod_eq_emod_of_nonneg (by omega)]; simp
def flagB (gl : List Bool) (x : Int) : Bool := gl.getD (x - 1).toNat false
theorem flagB_succ (gl : List Bool) (k : Nat) : flagB gl ((k : Int) + 1) = gl.getD k false := by
  unfold flagB
  rw [show ((k : Int) + 1 - 1).toNat = k from by omega]
theorem filter_upTo (P : Int → Bool) (k : Nat) : (upTo (k + 1)).filter P = (upTo k).filter P ++ (if P ((k : Int) + 1) then [(k : Int) + 1] else []) := by
  rw [upTo_succ, List.filter_append]
  by_cases e : P ((k : Int) + 1) = true
  · simp [e]
  · simp [e]
theorem filters_len (P : Int → Bool) (l : List Int) : (l.filter P).length + (l.filter fun x => !P x).length = l.length := by
  induction l with
  | nil => rfl
  | cons a l ih => cases e : P a <;> simp [e] <;> omega
/-- the head of the first loop -/
structure TI (v m : V) (gl : List Bool) (h : Hp) (K k : Nat) (fr : F) (h' : Hp) (x y w : V) : Prop where
  f11 : fr.get (Pos.of 11) = some (.int .i64 (k : Int))
  f7 : fr.get (Pos.of 7) = some (.int .i64 (K : Int))
  f8 : fr.get (Pos.of 8) = some x
  f9 : fr.get (Pos.of 9) = some y
  f10 : fr.get (Pos.of 10) = some w
  f1 : fr.get (Pos.of 1) = some v
  f2 : fr.get (Pos.of 2) = some m
  ox : Own h.next.nat h' 1 x (upTo k).length (ints (upTo k))
  oy : Own h.next.nat h' 1 y ((upTo k).filter fun x => !flagB gl x).length (ints ((upTo k).filter fun x => !flagB gl x))
  ow : Own h.next.nat h' 1 w ((upTo k).filter (flagB gl)).length (ints ((upTo k).filter (flagB gl)))
  sxy : Sep x y
  sxw : Sep x w
  syw : Sep y w
  hf : Fr h.next.nat h h'
theorem takes_round {b : Nat} {h : Hp} {v : V} {gl : List Bool} (s : Sl b h 1 v gl.length (bools gl)) (hb : b ≤ h.next.nat) {K k : Nat} (hK : K < 100) (hk : k < K) {fr : F} {h' : Hp} {x y w m : V} (t : TI v m gl h K k fr h' x y w) :
    ∃ fr2 h2, Tryb3_4 fr h' = .nor fr2 h2 ∧ ∃ x y w, TI v m gl h K (k + 1) fr2 h2 x y w := by
  obtain ⟨f11, f7, f8, f9, f10, f1, f2, ox, oy, ow, sxy, sxw, syw, hf⟩ := t
  have lx := upTo_length k
  have ll := filters_len (flagB gl) (upTo k)
  obtain ⟨x', h1, a1, a2, a3, a4⟩ := append_own2 (bt := 8) (new := [.int .i64 ((k : Int) + 1)]) ox hf.next rfl (by omega)
  obtain ⟨oy1, sxy1⟩ := a4 _ _ _ _ oy sxy
  obtain ⟨ow1, sxw1⟩ := a4 _ _ _ _ ow sxw
  have hf1 := hf.trans a3
  have ex : Own h.next.nat h1 1 x' (upTo (k + 1)).length (ints (upTo (k + 1))) := by rw [upTo_succ, ints_append, List.length_append]; exact a2
  have g1 := flagB_succ gl k
  cases hg : gl.getD k false with
  | true =>
    rw [hg] at g1
    obtain ⟨w', h2, b1, b2, b3, b4⟩ := append_own2 (bt := 8) (new := [.int .i64 ((k : Int) + 1)]) ow1 hf1.next rfl (by omega)
    obtain ⟨ox2, swx2⟩ := b4 _ _ _ _ ex sxw1.symm
    obtain ⟨oy2, swy2⟩ := b4 _ _ _ _ oy1 syw.symm
    have hkg : k < gl.length := by
      rcases Nat.lt_or_ge k gl.length with hl | hl
      · exact hl
      · rw [List.getD_eq_getElem?_getD, List.getElem?_eq_none hl] at hg; cases hg
    obtain ⟨i, q, e1, hib, e2⟩ := Sl.bools s hkg
    have e2' := e2 h1 (hf1.get i (by omega))
    have hgd : gl[k] = true := by rw [← hg]; simp [List.getD_eq_getElem?_getD, hkg]
    rw [hgd] at e2'
    simp (disch := omega) only [seqO_eq, thenO_nor, thenO_ret, thenO_ex, gtO_some, bndO_ok, get_set_of, cndX_tmp, ifB_true, ifB_false, ifB_pos, ifB_neg, blkO_eq, blkX_nor, blkX_ret, blkX_ex, Nat.reduceEqDiff, Nat.zero_ne_one, Nat.one_ne_zero, reduceCtorEq, ↓reduceIte, oBin_add, oBin_sub, oBin_eql, oBin_neq, oBin_lss, oBin_leq, oBin_gtr, oBin_geq, oUn_not, oPick_true, oPick_false, oExtract_0, oExtract_1, oExtract_2, oMin_eq, oMax_eq, oFieldAddr_eq, oConvInt_i64, oBin_rem, oBuildSlice_11, oBinAgg_eql2, oBinAgg_neq2, oBuildSlice_1, oBuild_2, oBuildSlice_2, chk_zero, chk_nil, bumpH_zero, alcO_some, Bool.not_true, Bool.not_false, Option.getD_some, Option.getD_none, Option.isSome_some, Option.isSome_none, Tryb3_4, Tryr3_4, f11, f7, Tryr3_6, f8, a1, Tryr3_7, f1, s.length, e1, e2', Tryr3_8, f10, b1, Tryr3_5]
    refine ⟨_, _, rfl, x', y, w', ?_, ?_, ?_, ?_, ?_, ?_, ?_, ox2, ?_, ?_, sxy1, swx2.symm, swy2.symm, hf1.trans b3⟩
    all_goals first | (simp only [seqO_eq, thenO_nor, thenO_ret, thenO_ex, gtO_some, bndO_ok, get_set_of, cndX_tmp, ifB_true, ifB_false, ifB_pos, ifB_neg, blkO_eq, blkX_nor, blkX_ret, blkX_ex, Nat.reduceEqDiff, Nat.zero_ne_one, Nat.one_ne_zero, reduceCtorEq, ↓reduceIte, oBin_add, oBin_sub, oBin_eql, oBin_neq, oBin_lss, oBin_leq, oBin_gtr, oBin_geq, oUn_not, oPick_true, oPick_false, oExtract_0, oExtract_1, oExtract_2, oMin_eq, oMax_eq, oFieldAddr_eq, oConvInt_i64, oBin_rem, oBuildSlice_11, oBinAgg_eql2, oBinAgg_neq2, oBuildSlice_1, oBuild_2, oBuildSlice_2, chk_zero, chk_nil, bumpH_zero, alcO_some, Bool.not_true, Bool.not_false, Option.getD_some, Option.getD_none, Option.isSome_some, Option.isSome_none, f7, f9, f1, f2]; done) | (simp only [seqO_eq, thenO_nor, thenO_ret, thenO_ex, gtO_some, bndO_ok, get_set_of, cndX_tmp, ifB_true, ifB_false, ifB_pos, ifB_neg, blkO_eq, blkX_nor, blkX_ret, blkX_ex, Nat.reduceEqDiff, Nat.zero_ne_one, Nat.one_ne_zero, reduceCtorEq, ↓reduceIte, oBin_add, oBin_sub, oBin_eql, oBin_neq, oBin_lss, oBin_leq, oBin_gtr, oBin_geq, oUn_not, oPick_true, oPick_false, oExtract_0, oExtract_1, oExtract_2, oMin_eq, oMax_eq, oFieldAddr_eq, oConvInt_i64, oBin_rem, oBuildSlice_11, oBinAgg_eql2, oBinAgg_neq2, oBuildSlice_1, oBuild_2, oBuildSlice_2, chk_zero, chk_nil, bumpH_zero, alcO_some, Bool.not_true, Bool.not_false, Option.getD_some, Option.getD_none, Option.isSome_some, Option.isSome_none]; rfl) | skip
    · rw [filter_upTo, g1]; simpa using oy2
    · rw [filter_upTo, g1, if_pos rfl, ints_append, List.length_append]; exact b2
  | false =>
    rw [hg] at g1
    obtain ⟨y', h2, b1, b2, b3, b4⟩ := append_own2 (bt := 8) (new := [.int .i64 ((k : Int) + 1)]) oy1 hf1.next rfl (by omega)
    obtain ⟨ox2, syx2⟩ := b4 _ _ _ _ ex sxy1.symm
    obtain ⟨ow2, syw2⟩ := b4 _ _ _ _ ow1 syw
    by_cases hkg : k < gl.length
    · obtain ⟨i, q, e1, hib, e2⟩ := Sl.bools s hkg
      have e2' := e2 h1 (hf1.get i (by omega))
      have hgd : gl[k] = false := by rw [← hg]; simp [List.getD_eq_getElem?_getD, hkg]
      rw [hgd] at e2'
      simp (disch := omega) only [seqO_eq, thenO_nor, thenO_ret, thenO_ex, gtO_some, bndO_ok, get_set_of, cndX_tmp, ifB_true, ifB_false, ifB_pos, ifB_neg, blkO_eq, blkX_nor, blkX_ret, blkX_ex, Nat.reduceEqDiff, Nat.zero_ne_one, Nat.one_ne_zero, reduceCtorEq, ↓reduceIte, oBin_add, oBin_sub, oBin_eql, oBin_neq, oBin_lss, oBin_leq, oBin_gtr, oBin_geq, oUn_not, oPick_true, oPick_false, oExtract_0, oExtract_1, oExtract_2, oMin_eq, oMax_eq, oFieldAddr_eq, oConvInt_i64, oBin_rem, oBuildSlice_11, oBinAgg_eql2, oBinAgg_neq2, oBuildSlice_1, oBuild_2, oBuildSlice_2, chk_zero, chk_nil, bumpH_zero, alcO_some, Bool.not_true, Bool.not_false, Option.getD_some, Option.getD_none, Option.isSome_some, Option.isSome_none, Tryb3_4, Tryr3_4, f11, f7, Tryr3_6, f8, a1, Tryr3_7, f1, s.length, e1, e2', Tryr3_9, f9, b1, Tryr3_5]
      refine ⟨_, _, rfl, x', y', w, ?_, ?_, ?_, ?_, ?_, ?_, ?_, ox2, ?_, ?_, syx2.symm, sxw1, syw2, hf1.trans b3⟩
      all_goals first | (simp only [seqO_eq, thenO_nor, thenO_ret, thenO_ex, gtO_some, bndO_ok, get_set_of, cndX_tmp, ifB_true, ifB_false, ifB_pos, ifB_neg, blkO_eq, blkX_nor, blkX_ret, blkX_ex, Nat.reduceEqDiff, Nat.zero_ne_one, Nat.one_ne_zero, reduceCtorEq, ↓reduceIte, oBin_add, oBin_sub, oBin_eql, oBin_neq, oBin_lss, oBin_leq, oBin_gtr, oBin_geq, oUn_not, oPick_true, oPick_false, oExtract_0, oExtract_1, oExtract_2, oMin_eq, oMax_eq, oFieldAddr_eq, oConvInt_i64, oBin_rem, oBuildSlice_11, oBinAgg_eql2, oBinAgg_neq2, oBuildSlice_1, oBuild_2, oBuildSlice_2, chk_zero, chk_nil, bumpH_zero, alcO_some, Bool.not_true, Bool.not_false, Option.getD_some, Option.getD_none, Option.isSome_some, Option.isSome_none, f7, f10, f1, f2]; done) | (simp only [seqO_eq, thenO_nor, thenO_ret, thenO_ex, gtO_some, bndO_ok, get_set_of, cndX_tmp, ifB_true, ifB_false, ifB_pos, ifB_neg, blkO_eq, blkX_nor, blkX_ret, blkX_ex, Nat.reduceEqDiff, Nat.zero_ne_one, Nat.one_ne_zero, reduceCtorEq, ↓reduceIte, oBin_add, oBin_sub, oBin_eql, oBin_neq, oBin_lss, oBin_leq, oBin_gtr, oBin_geq, oUn_not, oPick_true, oPick_false, oExtract_0, oExtract_1, oExtract_2, oMin_eq, oMax_eq, oFieldAddr_eq, oConvInt_i64, oBin_rem, oBuildSlice_11, oBinAgg_eql2, oBinAgg_neq2, oBuildSlice_1, oBuild_2, oBuildSlice_2, chk_zero, chk_nil, bumpH_zero, alcO_some, Bool.not_true, Bool.not_false, Option.getD_some, Option.getD_none, Option.isSome_some, Option.isSome_none]; rfl) | skip
      · rw [filter_upTo, g1, ints_append, List.length_append]; exact b2
      · rw [filter_upTo, g1]; simpa using ow2
    · simp (disch := omega) only [seqO_eq, thenO_nor, thenO_ret, thenO_ex, gtO_some, bndO_ok, get_set_of, cndX_tmp, ifB_true, ifB_false, ifB_pos, ifB_neg, blkO_eq, blkX_nor, blkX_ret, blkX_ex, Nat.reduceEqDiff, Nat.zero_ne_one, Nat.one_ne_zero, reduceCtorEq, ↓reduceIte, oBin_add, oBin_sub, oBin_eql, oBin_neq, oBin_lss, oBin_leq, oBin_gtr, oBin_geq, oUn_not, oPick_true, oPick_false, oExtract_0, oExtract_1, oExtract_2, oMin_eq, oMax_eq, oFieldAddr_eq, oConvInt_i64, oBin_rem, oBuildSlice_11, oBinAgg_eql2, oBinAgg_neq2, oBuildSlice_1, oBuild_2, oBuildSlice_2, chk_zero, chk_nil, bumpH_zero, alcO_some, Bool.not_true, Bool.not_false, Option.getD_some, Option.getD_none, Option.isSome_some, Option.isSome_none, Tryb3_4, Tryr3_4, f11, f7, Tryr3_6, f8, a1, Tryr3_7, f1, s.length, Tryr3_9, f9, b1, Tryr3_5]
      refine ⟨_, _, rfl, x', y', w, ?_, ?_, ?_, ?_, ?_, ?_, ?_, ox2, ?_, ?_, syx2.symm, sxw1, syw2, hf1.trans b3⟩
      all_goals first | (simp only [seqO_eq, thenO_nor, thenO_ret, thenO_ex, gtO_some, bndO_ok, get_set_of, cndX_tmp, ifB_true, ifB_false, ifB_pos, ifB_neg, blkO_eq, blkX_nor, blkX_ret, blkX_ex, Nat.reduceEqDiff, Nat.zero_ne_one, Nat.one_ne_zero, reduceCtorEq, ↓reduceIte, oBin_add, oBin_sub, oBin_eql, oBin_neq, oBin_lss, oBin_leq, oBin_gtr, oBin_geq, oUn_not, oPick_true, oPick_false, oExtract_0, oExtract_1, oExtract_2, oMin_eq, oMax_eq, oFieldAddr_eq, oConvInt_i64, oBin_rem, oBuildSlice_11, oBinAgg_eql2, oBinAgg_neq2, oBuildSlice_1, oBuild_2, oBuildSlice_2, chk_zero, chk_nil, bumpH_zero, alcO_some, Bool.not_true, Bool.not_false, Option.getD_some, Option.getD_none, Option.isSome_some, Option.isSome_none, f7, f10, f1, f2]; done) | (simp only [seqO_eq, thenO_nor, thenO_ret, thenO_ex, gtO_some, bndO_ok, get_set_of, cndX_tmp, ifB_true, ifB_false, ifB_pos, ifB_neg, blkO_eq, blkX_nor, blkX_ret, blkX_ex, Nat.reduceEqDiff, Nat.zero_ne_one, Nat.one_ne_zero, reduceCtorEq, ↓reduceIte, oBin_add, oBin_sub, oBin_eql, oBin_neq, oBin_lss, oBin_leq, oBin_gtr, oBin_geq, oUn_not, oPick_true, oPick_false, oExtract_0, oExtract_1, oExtract_2, oMin_eq, oMax_eq, oFieldAddr_eq, oConvInt_i64, oBin_rem, oBuildSlice_11, oBinAgg_eql2, oBinAgg_neq2, oBuildSlice_1, oBuild_2, oBuildSlice_2, chk_zero, chk_nil, bumpH_zero, alcO_some, Bool.not_true, Bool.not_false, Option.getD_some, Option.getD_none, Option.isSome_some, Option.isSome_none]; rfl) | skip
      · rw [filter_upTo, g1, ints_append, List.length_append]; exact b2
      · rw [filter_upTo, g1]; simpa using ow2
theorem zip_get (m o i : Nat) (hi : i < (((newOnes m).zipIdx o).map fun p => (p.1, (p.2 : Int))).length) : (((newOnes m).zipIdx o).map fun p => (p.1, (p.2 : Int)))[i] = (100 + (i : Int), (o : Int) + (i : Int)) := by
  simp [newOnes]
theorem takes_ok {b : Nat} {h : Hp} {v : V} {gl : List Bool} {n m : Nat} (hn : n < 256) (hm : m < 256) (s : Sl b h 1 v gl.length (bools gl)) (hb : b ≤ h.next.nat) :
    ∃ h', TryF3 [.int .u8 (n : Int), v, .int .u8 (m : Int)] h = .ok (.bool true) h' ∧ Fr b h h' := by
  have : Tells Try.prog [.tmp 6] (fun r h' => r = .bool true ∧ Fr b h h') (Tryd3 (T.set (some (.int .u8 (m : Int))) (Pos.of 2) (T.set (some v) (Pos.of 1) (T.set (some (.int .u8 (n : Int))) (Pos.of 0) T.nil))) h) := by
    have hk : (n : Int).tmod 60 = ((n % 60 : Nat) : Int) := tmod_nat n 60
    have hm9 : (m : Int).tmod 9 = ((m % 9 : Nat) : Int) := tmod_nat m 9
    have hK : n % 60 < 60 := Nat.mod_lt _ (by omega)
    have hM : m % 9 < 9 := Nat.mod_lt _ (by omega)
    simp (disch := omega) only [seqO_eq, thenO_nor, thenO_ret, thenO_ex, gtO_some, bndO_ok, get_set_of, cndX_tmp, ifB_true, ifB_false, ifB_pos, ifB_neg, blkO_eq, blkX_nor, blkX_ret, blkX_ex, Nat.reduceEqDiff, Nat.zero_ne_one, Nat.one_ne_zero, reduceCtorEq, ↓reduceIte, oBin_add, oBin_sub, oBin_eql, oBin_neq, oBin_lss, oBin_leq, oBin_gtr, oBin_geq, oUn_not, oPick_true, oPick_false, oExtract_0, oExtract_1, oExtract_2, oMin_eq, oMax_eq, oFieldAddr_eq, oConvInt_i64, oBin_rem, oBuildSlice_11, oBinAgg_eql2, oBinAgg_neq2, oBuildSlice_1, oBuild_2, oBuildSlice_2, chk_zero, chk_nil, bumpH_zero, alcO_some, Bool.not_true, Bool.not_false, Option.getD_some, Option.getD_none, Option.isSome_some, Option.isSome_none, Tryd3, Tryr3_0, Tryr3_1, hk, Tryr3_2, Tryr3_3]
    generalize n % 60 = K at *
    refine Oc.then (loop_rule (n := K) (fun m' fr h' => ∃ k x y w, k + m' = K ∧ TI v (.int .u8 (m : Int)) gl h K k fr h' x y w)
      (A := fun fr h' => ∃ x y w, TI v (.int .u8 (m : Int)) gl h K K fr h' x y w) (B := fun _ _ => False) (by rw [lf_eq]; omega) ?_ ?_) ?_ ?_
    · refine ⟨0, .nils, .nils, .nils, by omega, ?_, ?_, ?_, ?_, ?_, ?_, ?_, Own.nil _ _ _, Own.nil _ _ _, Own.nil _ _ _, Sep.nil _, Sep.nil _, Sep.nil _, Fr.refl _ _⟩
      all_goals first | (simp only [seqO_eq, thenO_nor, thenO_ret, thenO_ex, gtO_some, bndO_ok, get_set_of, cndX_tmp, ifB_true, ifB_false, ifB_pos, ifB_neg, blkO_eq, blkX_nor, blkX_ret, blkX_ex, Nat.reduceEqDiff, Nat.zero_ne_one, Nat.one_ne_zero, reduceCtorEq, ↓reduceIte, oBin_add, oBin_sub, oBin_eql, oBin_neq, oBin_lss, oBin_leq, oBin_gtr, oBin_geq, oUn_not, oPick_true, oPick_false, oExtract_0, oExtract_1, oExtract_2, oMin_eq, oMax_eq, oFieldAddr_eq, oConvInt_i64, oBin_rem, oBuildSlice_11, oBinAgg_eql2, oBinAgg_neq2, oBuildSlice_1, oBuild_2, oBuildSlice_2, chk_zero, chk_nil, bumpH_zero, alcO_some, Bool.not_true, Bool.not_false, Option.getD_some, Option.getD_none, Option.isSome_some, Option.isSome_none]; done) | (simp only [seqO_eq, thenO_nor, thenO_ret, thenO_ex, gtO_some, bndO_ok, get_set_of, cndX_tmp, ifB_true, ifB_false, ifB_pos, ifB_neg, blkO_eq, blkX_nor, blkX_ret, blkX_ex, Nat.reduceEqDiff, Nat.zero_ne_one, Nat.one_ne_zero, reduceCtorEq, ↓reduceIte, oBin_add, oBin_sub, oBin_eql, oBin_neq, oBin_lss, oBin_leq, oBin_gtr, oBin_geq, oUn_not, oPick_true, oPick_false, oExtract_0, oExtract_1, oExtract_2, oMin_eq, oMax_eq, oFieldAddr_eq, oConvInt_i64, oBin_rem, oBuildSlice_11, oBinAgg_eql2, oBinAgg_neq2, oBuildSlice_1, oBuild_2, oBuildSlice_2, chk_zero, chk_nil, bumpH_zero, alcO_some, Bool.not_true, Bool.not_false, Option.getD_some, Option.getD_none, Option.isSome_some, Option.isSome_none]; rfl)
    · rintro m' fr h' ⟨k, x, y, w, hkm, t⟩
      by_cases hlt : k < K
      · obtain ⟨fr2, h2, e, x', y', w', t'⟩ := takes_round s hb (by omega) hlt t
        rw [e]
        exact ⟨m' - 1, by omega, k + 1, x', y', w', by omega, t'⟩
      · have : k = K := by omega
        subst this
        have f11 := t.f11
        have f7 := t.f7
        simp (disch := omega) only [seqO_eq, thenO_nor, thenO_ret, thenO_ex, gtO_some, bndO_ok, get_set_of, cndX_tmp, ifB_true, ifB_false, ifB_pos, ifB_neg, blkO_eq, blkX_nor, blkX_ret, blkX_ex, Nat.reduceEqDiff, Nat.zero_ne_one, Nat.one_ne_zero, reduceCtorEq, ↓reduceIte, oBin_add, oBin_sub, oBin_eql, oBin_neq, oBin_lss, oBin_leq, oBin_gtr, oBin_geq, oUn_not, oPick_true, oPick_false, oExtract_0, oExtract_1, oExtract_2, oMin_eq, oMax_eq, oFieldAddr_eq, oConvInt_i64, oBin_rem, oBuildSlice_11, oBinAgg_eql2, oBinAgg_neq2, oBuildSlice_1, oBuild_2, oBuildSlice_2, chk_zero, chk_nil, bumpH_zero, alcO_some, Bool.not_true, Bool.not_false, Option.getD_some, Option.getD_none, Option.isSome_some, Option.isSome_none, Tryb3_4, Tryr3_4, f11, f7]
        refine ⟨rfl, x, y, w, ?_⟩
        obtain ⟨f11, f7, f8, f9, f10, f1, f2, ox, oy, ow, sxy, sxw, syw, hf⟩ := t
        refine ⟨?_, ?_, ?_, ?_, ?_, ?_, ?_, ox, oy, ow, sxy, sxw, syw, hf⟩ <;> simp only [seqO_eq, thenO_nor, thenO_ret, thenO_ex, gtO_some, bndO_ok, get_set_of, cndX_tmp, ifB_true, ifB_false, ifB_pos, ifB_neg, blkO_eq, blkX_nor, blkX_ret, blkX_ex, Nat.reduceEqDiff, Nat.zero_ne_one, Nat.one_ne_zero, reduceCtorEq, ↓reduceIte, oBin_add, oBin_sub, oBin_eql, oBin_neq, oBin_lss, oBin_leq, oBin_gtr, oBin_geq, oUn_not, oPick_true, oPick_false, oExtract_0, oExtract_1, oExtract_2, oMin_eq, oMax_eq, oFieldAddr_eq, oConvInt_i64, oBin_rem, oBuildSlice_11, oBinAgg_eql2, oBinAgg_neq2, oBuildSlice_1, oBuild_2, oBuildSlice_2, chk_zero, chk_nil, bumpH_zero, alcO_some, Bool.not_true, Bool.not_false, Option.getD_some, Option.getD_none, Option.isSome_some, Option.isSome_none, f11, f7, f8, f9, f10, f1, f2]
    · rintro fr h' ⟨x, y, w, ⟨f11, f7, f8, f9, f10, f1, f2, ox, oy, ow, sxy, sxw, syw, hf⟩⟩
      have ll := filters_len (flagB gl) (upTo K)
      have lx := upTo_length K
      simp (disch := omega) only [seqO_eq, thenO_nor, thenO_ret, thenO_ex, gtO_some, bndO_ok, get_set_of, cndX_tmp, ifB_true, ifB_false, ifB_pos, ifB_neg, blkO_eq, blkX_nor, blkX_ret, blkX_ex, Nat.reduceEqDiff, Nat.zero_ne_one, Nat.one_ne_zero, reduceCtorEq, ↓reduceIte, oBin_add, oBin_sub, oBin_eql, oBin_neq, oBin_lss, oBin_leq, oBin_gtr, oBin_geq, oUn_not, oPick_true, oPick_false, oExtract_0, oExtract_1, oExtract_2, oMin_eq, oMax_eq, oFieldAddr_eq, oConvInt_i64, oBin_rem, oBuildSlice_11, oBinAgg_eql2, oBinAgg_neq2, oBuildSlice_1, oBuild_2, oBuildSlice_2, chk_zero, chk_nil, bumpH_zero, alcO_some, Bool.not_true, Bool.not_false, Option.getD_some, Option.getD_none, Option.isSome_some, Option.isSome_none, Tryr3_10, f2, hm9, Tryr3_11]
      generalize m % 9 = M at *
      refine Oc.then (loop_rule (n := M) (fun m' fr g => ∃ k y, k + m' = M ∧ fr.get (Pos.of 13) = some (.int .i64 (k : Int)) ∧ fr.get (Pos.of 12) = some (.int .i64 (M : Int)) ∧ fr.get (Pos.of 7) = some (.int .i64 (K : Int)) ∧ fr.get (Pos.of 8) = some x ∧ fr.get (Pos.of 9) = some y ∧ fr.get (Pos.of 10) = some w ∧
          Own h.next.nat g 1 x (upTo K).length (ints (upTo K)) ∧ Own h.next.nat g 1 w ((upTo K).filter (flagB gl)).length (ints ((upTo K).filter (flagB gl))) ∧ Sep y x ∧ Sep y w ∧ Fr h.next.nat h g ∧
          Own h.next.nat g 1 y ((upTo K).filter (fun x => !flagB gl x) ++ newOnes k).length (ints ((upTo K).filter (fun x => !flagB gl x) ++ newOnes k)))
        (A := fun fr g => ∃ y, fr.get (Pos.of 12) = some (.int .i64 (M : Int)) ∧ fr.get (Pos.of 7) = some (.int .i64 (K : Int)) ∧ fr.get (Pos.of 8) = some x ∧ fr.get (Pos.of 9) = some y ∧ fr.get (Pos.of 10) = some w ∧
          Own h.next.nat g 1 x (upTo K).length (ints (upTo K)) ∧ Own h.next.nat g 1 w ((upTo K).filter (flagB gl)).length (ints ((upTo K).filter (flagB gl))) ∧ Fr h.next.nat h g ∧
          Own h.next.nat g 1 y ((upTo K).filter (fun x => !flagB gl x) ++ newOnes M).length (ints ((upTo K).filter (fun x => !flagB gl x) ++ newOnes M))) (B := fun _ _ => False) (by rw [lf_eq]; omega) ?_ ?_) ?_ ?_
      · refine ⟨0, y, by omega, ?_, ?_, ?_, ?_, ?_, ?_, ox, ow, sxy.symm, syw, hf, by simpa [newOnes] using oy⟩
        all_goals first | (simp only [seqO_eq, thenO_nor, thenO_ret, thenO_ex, gtO_some, bndO_ok, get_set_of, cndX_tmp, ifB_true, ifB_false, ifB_pos, ifB_neg, blkO_eq, blkX_nor, blkX_ret, blkX_ex, Nat.reduceEqDiff, Nat.zero_ne_one, Nat.one_ne_zero, reduceCtorEq, ↓reduceIte, oBin_add, oBin_sub, oBin_eql, oBin_neq, oBin_lss, oBin_leq, oBin_gtr, oBin_geq, oUn_not, oPick_true, oPick_false, oExtract_0, oExtract_1, oExtract_2, oMin_eq, oMax_eq, oFieldAddr_eq, oConvInt_i64, oBin_rem, oBuildSlice_11, oBinAgg_eql2, oBinAgg_neq2, oBuildSlice_1, oBuild_2, oBuildSlice_2, chk_zero, chk_nil, bumpH_zero, alcO_some, Bool.not_true, Bool.not_false, Option.getD_some, Option.getD_none, Option.isSome_some, Option.isSome_none, f7, f8, f9, f10]; done) | (simp only [seqO_eq, thenO_nor, thenO_ret, thenO_ex, gtO_some, bndO_ok, get_set_of, cndX_tmp, ifB_true, ifB_false, ifB_pos, ifB_neg, blkO_eq, blkX_nor, blkX_ret, blkX_ex, Nat.reduceEqDiff, Nat.zero_ne_one, Nat.one_ne_zero, reduceCtorEq, ↓reduceIte, oBin_add, oBin_sub, oBin_eql, oBin_neq, oBin_lss, oBin_leq, oBin_gtr, oBin_geq, oUn_not, oPick_true, oPick_false, oExtract_0, oExtract_1, oExtract_2, oMin_eq, oMax_eq, oFieldAddr_eq, oConvInt_i64, oBin_rem, oBuildSlice_11, oBinAgg_eql2, oBinAgg_neq2, oBuildSlice_1, oBuild_2, oBuildSlice_2, chk_zero, chk_nil, bumpH_zero, alcO_some, Bool.not_true, Bool.not_false, Option.getD_some, Option.getD_none, Option.isSome_some, Option.isSome_none]; rfl)
      · rintro m' fr g ⟨k, y, hkm, f13, f12, f7, f8, f9, f10, ox, ow, syx, syw, hf, oy⟩
        by_cases hlt : k < M
        · have ln := newOnes_length k
          obtain ⟨y', g1, a1, a2, a3, a4⟩ := append_own2 (bt := 8) (new := [.int .i64 (100 + (k : Int))]) oy hf.next rfl (by rw [List.length_append]; omega)
          obtain ⟨ox1, syx1⟩ := a4 _ _ _ _ ox syx
          obtain ⟨ow1, syw1⟩ := a4 _ _ _ _ ow syw
          simp (disch := omega) only [seqO_eq, thenO_nor, thenO_ret, thenO_ex, gtO_some, bndO_ok, get_set_of, cndX_tmp, ifB_true, ifB_false, ifB_pos, ifB_neg, blkO_eq, blkX_nor, blkX_ret, blkX_ex, Nat.reduceEqDiff, Nat.zero_ne_one, Nat.one_ne_zero, reduceCtorEq, ↓reduceIte, oBin_add, oBin_sub, oBin_eql, oBin_neq, oBin_lss, oBin_leq, oBin_gtr, oBin_geq, oUn_not, oPick_true, oPick_false, oExtract_0, oExtract_1, oExtract_2, oMin_eq, oMax_eq, oFieldAddr_eq, oConvInt_i64, oBin_rem, oBuildSlice_11, oBinAgg_eql2, oBinAgg_neq2, oBuildSlice_1, oBuild_2, oBuildSlice_2, chk_zero, chk_nil, bumpH_zero, alcO_some, Bool.not_true, Bool.not_false, Option.getD_some, Option.getD_none, Option.isSome_some, Option.isSome_none, Tryb3_12, Tryr3_12, f13, f12, Tryr3_14, f9, a1, Tryr3_13]
          refine ⟨m' - 1, by omega, k + 1, y', by omega, ?_, ?_, ?_, ?_, ?_, ?_, ox1, ow1, syx1, syw1, hf.trans a3, ?_⟩
          all_goals first | (simp only [seqO_eq, thenO_nor, thenO_ret, thenO_ex, gtO_some, bndO_ok, get_set_of, cndX_tmp, ifB_true, ifB_false, ifB_pos, ifB_neg, blkO_eq, blkX_nor, blkX_ret, blkX_ex, Nat.reduceEqDiff, Nat.zero_ne_one, Nat.one_ne_zero, reduceCtorEq, ↓reduceIte, oBin_add, oBin_sub, oBin_eql, oBin_neq, oBin_lss, oBin_leq, oBin_gtr, oBin_geq, oUn_not, oPick_true, oPick_false, oExtract_0, oExtract_1, oExtract_2, oMin_eq, oMax_eq, oFieldAddr_eq, oConvInt_i64, oBin_rem, oBuildSlice_11, oBinAgg_eql2, oBinAgg_neq2, oBuildSlice_1, oBuild_2, oBuildSlice_2, chk_zero, chk_nil, bumpH_zero, alcO_some, Bool.not_true, Bool.not_false, Option.getD_some, Option.getD_none, Option.isSome_some, Option.isSome_none, f12, f7, f8, f9, f10]; done) | (simp only [seqO_eq, thenO_nor, thenO_ret, thenO_ex, gtO_some, bndO_ok, get_set_of, cndX_tmp, ifB_true, ifB_false, ifB_pos, ifB_neg, blkO_eq, blkX_nor, blkX_ret, blkX_ex, Nat.reduceEqDiff, Nat.zero_ne_one, Nat.one_ne_zero, reduceCtorEq, ↓reduceIte, oBin_add, oBin_sub, oBin_eql, oBin_neq, oBin_lss, oBin_leq, oBin_gtr, oBin_geq, oUn_not, oPick_true, oPick_false, oExtract_0, oExtract_1, oExtract_2, oMin_eq, oMax_eq, oFieldAddr_eq, oConvInt_i64, oBin_rem, oBuildSlice_11, oBinAgg_eql2, oBinAgg_neq2, oBuildSlice_1, oBuild_2, oBuildSlice_2, chk_zero, chk_nil, bumpH_zero, alcO_some, Bool.not_true, Bool.not_false, Option.getD_some, Option.getD_none, Option.isSome_some, Option.isSome_none]; rfl) | skip
          rw [newOnes_succ, ← List.append_assoc, ints_append, List.length_append]; exact a2
        · have : k = M := by omega
          subst this
          simp (disch := omega) only [seqO_eq, thenO_nor, thenO_ret, thenO_ex, gtO_some, bndO_ok, get_set_of, cndX_tmp, ifB_true, ifB_false, ifB_pos, ifB_neg, blkO_eq, blkX_nor, blkX_ret, blkX_ex, Nat.reduceEqDiff, Nat.zero_ne_one, Nat.one_ne_zero, reduceCtorEq, ↓reduceIte, oBin_add, oBin_sub, oBin_eql, oBin_neq, oBin_lss, oBin_leq, oBin_gtr, oBin_geq, oUn_not, oPick_true, oPick_false, oExtract_0, oExtract_1, oExtract_2, oMin_eq, oMax_eq, oFieldAddr_eq, oConvInt_i64, oBin_rem, oBuildSlice_11, oBinAgg_eql2, oBinAgg_neq2, oBuildSlice_1, oBuild_2, oBuildSlice_2, chk_zero, chk_nil, bumpH_zero, alcO_some, Bool.not_true, Bool.not_false, Option.getD_some, Option.getD_none, Option.isSome_some, Option.isSome_none, Tryb3_12, Tryr3_12, f13, f12]
          exact ⟨rfl, y, by simp only [seqO_eq, thenO_nor, thenO_ret, thenO_ex, gtO_some, bndO_ok, get_set_of, cndX_tmp, ifB_true, ifB_false, ifB_pos, ifB_neg, blkO_eq, blkX_nor, blkX_ret, blkX_ex, Nat.reduceEqDiff, Nat.zero_ne_one, Nat.one_ne_zero, reduceCtorEq, ↓reduceIte, oBin_add, oBin_sub, oBin_eql, oBin_neq, oBin_lss, oBin_leq, oBin_gtr, oBin_geq, oUn_not, oPick_true, oPick_false, oExtract_0, oExtract_1, oExtract_2, oMin_eq, oMax_eq, oFieldAddr_eq, oConvInt_i64, oBin_rem, oBuildSlice_11, oBinAgg_eql2, oBinAgg_neq2, oBuildSlice_1, oBuild_2, oBuildSlice_2, chk_zero, chk_nil, bumpH_zero, alcO_some, Bool.not_true, Bool.not_false, Option.getD_some, Option.getD_none, Option.isSome_some, Option.isSome_none, f12], by simp only [seqO_eq, thenO_nor, thenO_ret, thenO_ex, gtO_some, bndO_ok, get_set_of, cndX_tmp, ifB_true, ifB_false, ifB_pos, ifB_neg, blkO_eq, blkX_nor, blkX_ret, blkX_ex, Nat.reduceEqDiff, Nat.zero_ne_one, Nat.one_ne_zero, reduceCtorEq, ↓reduceIte, oBin_add, oBin_sub, oBin_eql, oBin_neq, oBin_lss, oBin_leq, oBin_gtr, oBin_geq, oUn_not, oPick_true, oPick_false, oExtract_0, oExtract_1, oExtract_2, oMin_eq, oMax_eq, oFieldAddr_eq, oConvInt_i64, oBin_rem, oBuildSlice_11, oBinAgg_eql2, oBinAgg_neq2, oBuildSlice_1, oBuild_2, oBuildSlice_2, chk_zero, chk_nil, bumpH_zero, alcO_some, Bool.not_true, Bool.not_false, Option.getD_some, Option.getD_none, Option.isSome_some, Option.isSome_none, f7], by simp only [seqO_eq, thenO_nor, thenO_ret, thenO_ex, gtO_some, bndO_ok, get_set_of, cndX_tmp, ifB_true, ifB_false, ifB_pos, ifB_neg, blkO_eq, blkX_nor, blkX_ret, blkX_ex, Nat.reduceEqDiff, Nat.zero_ne_one, Nat.one_ne_zero, reduceCtorEq, ↓reduceIte, oBin_add, oBin_sub, oBin_eql, oBin_neq, oBin_lss, oBin_leq, oBin_gtr, oBin_geq, oUn_not, oPick_true, oPick_false, oExtract_0, oExtract_1, oExtract_2, oMin_eq, oMax_eq, oFieldAddr_eq, oConvInt_i64, oBin_rem, oBuildSlice_11, oBinAgg_eql2, oBinAgg_neq2, oBuildSlice_1, oBuild_2, oBuildSlice_2, chk_zero, chk_nil, bumpH_zero, alcO_some, Bool.not_true, Bool.not_false, Option.getD_some, Option.getD_none, Option.isSome_some, Option.isSome_none, f8], by simp only [seqO_eq, thenO_nor, thenO_ret, thenO_ex, gtO_some, bndO_ok, get_set_of, cndX_tmp, ifB_true, ifB_false, ifB_pos, ifB_neg, blkO_eq, blkX_nor, blkX_ret, blkX_ex, Nat.reduceEqDiff, Nat.zero_ne_one, Nat.one_ne_zero, reduceCtorEq, ↓reduceIte, oBin_add, oBin_sub, oBin_eql, oBin_neq, oBin_lss, oBin_leq, oBin_gtr, oBin_geq, oUn_not, oPick_true, oPick_false, oExtract_0, oExtract_1, oExtract_2, oMin_eq, oMax_eq, oFieldAddr_eq, oConvInt_i64, oBin_rem, oBuildSlice_11, oBinAgg_eql2, oBinAgg_neq2, oBuildSlice_1, oBuild_2, oBuildSlice_2, chk_zero, chk_nil, bumpH_zero, alcO_some, Bool.not_true, Bool.not_false, Option.getD_some, Option.getD_none, Option.isSome_some, Option.isSome_none, f9], by simp only [seqO_eq, thenO_nor, thenO_ret, thenO_ex, gtO_some, bndO_ok, get_set_of, cndX_tmp, ifB_true, ifB_false, ifB_pos, ifB_neg, blkO_eq, blkX_nor, blkX_ret, blkX_ex, Nat.reduceEqDiff, Nat.zero_ne_one, Nat.one_ne_zero, reduceCtorEq, ↓reduceIte, oBin_add, oBin_sub, oBin_eql, oBin_neq, oBin_lss, oBin_leq, oBin_gtr, oBin_geq, oUn_not, oPick_true, oPick_false, oExtract_0, oExtract_1, oExtract_2, oMin_eq, oMax_eq, oFieldAddr_eq, oConvInt_i64, oBin_rem, oBuildSlice_11, oBinAgg_eql2, oBinAgg_neq2, oBuildSlice_1, oBuild_2, oBuildSlice_2, chk_zero, chk_nil, bumpH_zero, alcO_some, Bool.not_true, Bool.not_false, Option.getD_some, Option.getD_none, Option.isSome_some, Option.isSome_none, f10], ox, ow, hf, oy⟩
      · rintro fr g ⟨y, f12, f7, f8, f9, f10, ox, ow, hf, oy⟩
        have ln := newOnes_length M
        obtain ⟨r, g1, p1, frd, ga, aa, rfl, sg, sa⟩ := diff_ok ox.sl oy.sl (Nat.le_refl _) (by omega) (by rw [List.length_append]; omega)
        have sw : Sl g1.next.nat g1 1 w ((upTo K).filter (flagB gl)).length (ints ((upTo K).filter (flagB gl))) := (ow.sl.fr frd).le frd.next
        have hl := takes_law (flagB gl) K M (by omega)
        have hlen : (((newOnes M).zipIdx ((upTo K).filter fun x => !flagB gl x).length).map fun p => (p.1, (p.2 : Int))).length = M := by simp [ln]
        have hze := zip_get M ((upTo K).filter fun x => !flagB gl x).length
        rw [hl] at sg sa
        generalize (((newOnes M).zipIdx ((upTo K).filter fun x => !flagB gl x).length).map fun p => (p.1, (p.2 : Int))) = Z at *
        simp only [] at sg sa
        have pi := ints_ok sg sw (by omega)
        rw [decide_eq_true rfl] at pi
        simp (disch := omega) only [seqO_eq, thenO_nor, thenO_ret, thenO_ex, gtO_some, bndO_ok, get_set_of, cndX_tmp, ifB_true, ifB_false, ifB_pos, ifB_neg, blkO_eq, blkX_nor, blkX_ret, blkX_ex, Nat.reduceEqDiff, Nat.zero_ne_one, Nat.one_ne_zero, reduceCtorEq, ↓reduceIte, oBin_add, oBin_sub, oBin_eql, oBin_neq, oBin_lss, oBin_leq, oBin_gtr, oBin_geq, oUn_not, oPick_true, oPick_false, oExtract_0, oExtract_1, oExtract_2, oMin_eq, oMax_eq, oFieldAddr_eq, oConvInt_i64, oBin_rem, oBuildSlice_11, oBinAgg_eql2, oBinAgg_neq2, oBuildSlice_1, oBuild_2, oBuildSlice_2, chk_zero, chk_nil, bumpH_zero, alcO_some, Bool.not_true, Bool.not_false, Option.getD_some, Option.getD_none, Option.isSome_some, Option.isSome_none, Tryr3_15, f8, f9, p1, Tryr3_16, f10, pi, sa.length, f12, Tryr3_18]
        refine Oc.then (loop_rule (n := M) (fun m' fr g' => ∃ k : Nat, k + m' = M ∧ fr.get (Pos.of 16) = some (.int .i64 (k : Int)) ∧ fr.get (Pos.of 12) = some (.int .i64 (M : Int)) ∧ fr.get (Pos.of 7) = some (.int .i64 (K : Int)) ∧ fr.get (Pos.of 10) = some w ∧ fr.get (Pos.of 15) = some aa ∧ g' = g1)
          (A := fun fr g' => g' = g1) (B := fun _ _ => False) (by rw [lf_eq]; omega) ?_ ?_) ?_ ?_
        · refine ⟨0, by omega, ?_, ?_, ?_, ?_, ?_, rfl⟩
          all_goals first | (simp only [seqO_eq, thenO_nor, thenO_ret, thenO_ex, gtO_some, bndO_ok, get_set_of, cndX_tmp, ifB_true, ifB_false, ifB_pos, ifB_neg, blkO_eq, blkX_nor, blkX_ret, blkX_ex, Nat.reduceEqDiff, Nat.zero_ne_one, Nat.one_ne_zero, reduceCtorEq, ↓reduceIte, oBin_add, oBin_sub, oBin_eql, oBin_neq, oBin_lss, oBin_leq, oBin_gtr, oBin_geq, oUn_not, oPick_true, oPick_false, oExtract_0, oExtract_1, oExtract_2, oMin_eq, oMax_eq, oFieldAddr_eq, oConvInt_i64, oBin_rem, oBuildSlice_11, oBinAgg_eql2, oBinAgg_neq2, oBuildSlice_1, oBuild_2, oBuildSlice_2, chk_zero, chk_nil, bumpH_zero, alcO_some, Bool.not_true, Bool.not_false, Option.getD_some, Option.getD_none, Option.isSome_some, Option.isSome_none, f12, f7, f10]; done) | (simp only [seqO_eq, thenO_nor, thenO_ret, thenO_ex, gtO_some, bndO_ok, get_set_of, cndX_tmp, ifB_true, ifB_false, ifB_pos, ifB_neg, blkO_eq, blkX_nor, blkX_ret, blkX_ex, Nat.reduceEqDiff, Nat.zero_ne_one, Nat.one_ne_zero, reduceCtorEq, ↓reduceIte, oBin_add, oBin_sub, oBin_eql, oBin_neq, oBin_lss, oBin_leq, oBin_gtr, oBin_geq, oUn_not, oPick_true, oPick_false, oExtract_0, oExtract_1, oExtract_2, oMin_eq, oMax_eq, oFieldAddr_eq, oConvInt_i64, oBin_rem, oBuildSlice_11, oBinAgg_eql2, oBinAgg_neq2, oBuildSlice_1, oBuild_2, oBuildSlice_2, chk_zero, chk_nil, bumpH_zero, alcO_some, Bool.not_true, Bool.not_false, Option.getD_some, Option.getD_none, Option.isSome_some, Option.isSome_none]; rfl)
        · rintro m' fr g' ⟨k, hkm, f16, f12, f7, f10, f15, rfl⟩
          by_cases hlt : k < M
          · obtain ⟨i, q, e1, -, e2⟩ := Sl.items sa (k := k) (by omega)
            have hz := hze k (by omega)
            rw [hz] at e2
            obtain ⟨e3, e4, -⟩ := e2 _ rfl
            have lw := sw.length (h' := g')
            simp (disch := omega) only [seqO_eq, thenO_nor, thenO_ret, thenO_ex, gtO_some, bndO_ok, get_set_of, cndX_tmp, ifB_true, ifB_false, ifB_pos, ifB_neg, blkO_eq, blkX_nor, blkX_ret, blkX_ex, Nat.reduceEqDiff, Nat.zero_ne_one, Nat.one_ne_zero, reduceCtorEq, ↓reduceIte, oBin_add, oBin_sub, oBin_eql, oBin_neq, oBin_lss, oBin_leq, oBin_gtr, oBin_geq, oUn_not, oPick_true, oPick_false, oExtract_0, oExtract_1, oExtract_2, oMin_eq, oMax_eq, oFieldAddr_eq, oConvInt_i64, oBin_rem, oBuildSlice_11, oBinAgg_eql2, oBinAgg_neq2, oBuildSlice_1, oBuild_2, oBuildSlice_2, chk_zero, chk_nil, bumpH_zero, alcO_some, Bool.not_true, Bool.not_false, Option.getD_some, Option.getD_none, Option.isSome_some, Option.isSome_none, Tryb3_19, Tryr3_19, f16, f12, Tryr3_21, f15, e1, e3, e4, f7, f10, lw, Tryr3_20]
            refine ⟨m' - 1, by omega, k + 1, by omega, ?_, ?_, ?_, ?_, ?_, rfl⟩
            all_goals first | (simp only [seqO_eq, thenO_nor, thenO_ret, thenO_ex, gtO_some, bndO_ok, get_set_of, cndX_tmp, ifB_true, ifB_false, ifB_pos, ifB_neg, blkO_eq, blkX_nor, blkX_ret, blkX_ex, Nat.reduceEqDiff, Nat.zero_ne_one, Nat.one_ne_zero, reduceCtorEq, ↓reduceIte, oBin_add, oBin_sub, oBin_eql, oBin_neq, oBin_lss, oBin_leq, oBin_gtr, oBin_geq, oUn_not, oPick_true, oPick_false, oExtract_0, oExtract_1, oExtract_2, oMin_eq, oMax_eq, oFieldAddr_eq, oConvInt_i64, oBin_rem, oBuildSlice_11, oBinAgg_eql2, oBinAgg_neq2, oBuildSlice_1, oBuild_2, oBuildSlice_2, chk_zero, chk_nil, bumpH_zero, alcO_some, Bool.not_true, Bool.not_false, Option.getD_some, Option.getD_none, Option.isSome_some, Option.isSome_none, f12, f7, f10, f15]; done) | (simp only [seqO_eq, thenO_nor, thenO_ret, thenO_ex, gtO_some, bndO_ok, get_set_of, cndX_tmp, ifB_true, ifB_false, ifB_pos, ifB_neg, blkO_eq, blkX_nor, blkX_ret, blkX_ex, Nat.reduceEqDiff, Nat.zero_ne_one, Nat.one_ne_zero, reduceCtorEq, ↓reduceIte, oBin_add, oBin_sub, oBin_eql, oBin_neq, oBin_lss, oBin_leq, oBin_gtr, oBin_geq, oUn_not, oPick_true, oPick_false, oExtract_0, oExtract_1, oExtract_2, oMin_eq, oMax_eq, oFieldAddr_eq, oConvInt_i64, oBin_rem, oBuildSlice_11, oBinAgg_eql2, oBinAgg_neq2, oBuildSlice_1, oBuild_2, oBuildSlice_2, chk_zero, chk_nil, bumpH_zero, alcO_some, Bool.not_true, Bool.not_false, Option.getD_some, Option.getD_none, Option.isSome_some, Option.isSome_none]; rfl)
          · simp (disch := omega) only [seqO_eq, thenO_nor, thenO_ret, thenO_ex, gtO_some, bndO_ok, get_set_of, cndX_tmp, ifB_true, ifB_false, ifB_pos, ifB_neg, blkO_eq, blkX_nor, blkX_ret, blkX_ex, Nat.reduceEqDiff, Nat.zero_ne_one, Nat.one_ne_zero, reduceCtorEq, ↓reduceIte, oBin_add, oBin_sub, oBin_eql, oBin_neq, oBin_lss, oBin_leq, oBin_gtr, oBin_geq, oUn_not, oPick_true, oPick_false, oExtract_0, oExtract_1, oExtract_2, oMin_eq, oMax_eq, oFieldAddr_eq, oConvInt_i64, oBin_rem, oBuildSlice_11, oBinAgg_eql2, oBinAgg_neq2, oBuildSlice_1, oBuild_2, oBuildSlice_2, chk_zero, chk_nil, bumpH_zero, alcO_some, Bool.not_true, Bool.not_false, Option.getD_some, Option.getD_none, Option.isSome_some, Option.isSome_none, Tryb3_19, Tryr3_19, f16, f12]
            exact ⟨rfl, rfl⟩
        · rintro fr g' rfl
          obtain ⟨g2, p2, f2⟩ := awake_ok g'
          simp (disch := omega) only [seqO_eq, thenO_nor, thenO_ret, thenO_ex, gtO_some, bndO_ok, get_set_of, cndX_tmp, ifB_true, ifB_false, ifB_pos, ifB_neg, blkO_eq, blkX_nor, blkX_ret, blkX_ex, Nat.reduceEqDiff, Nat.zero_ne_one, Nat.one_ne_zero, reduceCtorEq, ↓reduceIte, oBin_add, oBin_sub, oBin_eql, oBin_neq, oBin_lss, oBin_leq, oBin_gtr, oBin_geq, oUn_not, oPick_true, oPick_false, oExtract_0, oExtract_1, oExtract_2, oMin_eq, oMax_eq, oFieldAddr_eq, oConvInt_i64, oBin_rem, oBuildSlice_11, oBinAgg_eql2, oBinAgg_neq2, oBuildSlice_1, oBuild_2, oBuildSlice_2, chk_zero, chk_nil, bumpH_zero, alcO_some, Bool.not_true, Bool.not_false, Option.getD_some, Option.getD_none, Option.isSome_some, Option.isSome_none, Tryr3_23, p2]
          refine Tells.ret (by simp only [resK, get_set_of, seqO_eq, thenO_nor, thenO_ret, thenO_ex, gtO_some, bndO_ok, get_set_of, cndX_tmp, ifB_true, ifB_false, ifB_pos, ifB_neg, blkO_eq, blkX_nor, blkX_ret, blkX_ex, Nat.reduceEqDiff, Nat.zero_ne_one, Nat.one_ne_zero, reduceCtorEq, ↓reduceIte, oBin_add, oBin_sub, oBin_eql, oBin_neq, oBin_lss, oBin_leq, oBin_gtr, oBin_geq, oUn_not, oPick_true, oPick_false, oExtract_0, oExtract_1, oExtract_2, oMin_eq, oMax_eq, oFieldAddr_eq, oConvInt_i64, oBin_rem, oBuildSlice_11, oBinAgg_eql2, oBinAgg_neq2, oBuildSlice_1, oBuild_2, oBuildSlice_2, chk_zero, chk_nil, bumpH_zero, alcO_some, Bool.not_true, Bool.not_false, Option.getD_some, Option.getD_none, Option.isSome_some, Option.isSome_none, tupR]) ⟨rfl, ((hf.trans (frd.le hf.next)).trans (f2.le (by have := hf.next; have := frd.next; omega))).le hb⟩
        · intro _ _ hf; exact hf.elim
      · intro _ _ hf; exact hf.elim
    · intro _ _ hf; exact hf.elim
  obtain ⟨r, h', e, rfl, f⟩ := this
  exact ⟨h', by rw [TryF3_eq]; exact e, f⟩
end Go.Proofs.Ytmlbnkojodkieaa
