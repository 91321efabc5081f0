/- Part of the value machine, or of a walk by it: lemmas that the claim's last text uses. No conditions. -/
import Derived.Test.YtnlbcbjgejpanaaGreatDoorSeVmO
import Derived.Test.YtnlbcbjgejpanaaGreatDoorSeImB
set_option linter.unusedVariables false
set_option linter.unusedSimpArgs false
set_option linter.unnecessarySimpa false
noncomputable section
namespace Go.Proofs.Im
open Go Go.Proofs Go.Vm
set_option linter.unusedVariables false
set_option maxRecDepth 100000
set_option linter.unusedSimpArgs false
theorem strs_get {l : List (List Nat)} {k : Nat} {a : List Nat} (e : l[k]? = some a) : (l.map V.str)[k]? = some (.str a) := by rw [List.getElem?_map, e]; rfl
theorem lies_bd : liesAt Tryz.prog Tryz.prog.depth tBd (2 / Tryz.prog.cellsOf tBd) 0 tBd 1 = true := by kernel_rfl
theorem oNew_bd (h : Hp) : oNew tBd [.nilp, .nils] h = .ok (.ptr h.next 0) (h.new (.cells (.rw tBd true) [.nilp, .nils])) := (rfl)
theorem take_snoc {α : Type} {l : List α} {k : Nat} {a : α} (e : l[k]? = some a) : l.take (k + 1) = l.take k ++ [a] := by rw [List.take_add_one, e]; rfl
theorem join_okT {c : Nat} {h : Hp} {v : V} {l : List (List Nat)} {sep : List Nat} (s : Sl c h 1 v l.length (l.map V.str)) (hcap : capOk 1 v) (hc : c ≤ h.next.nat) (hn : l.length ≤ 1000000) (hs : sep.length ≤ 100) (ht : sizeL l ≤ 100000000)
    (hb : ∀ t ∈ l, ∀ c ∈ t, c < 256) (hsb : ∀ c ∈ sep, c < 256) (hne : l.length ≤ 1 ∨ joinM sep l ≠ []) :
    ∃ r h', ImF78 [v, .str sep] h = .ok r h' ∧ r = .str (joinM sep l) ∧ Ch (fun _ => False) h h' := by
  rw [ImF78_eq]
  show Tells Tryz.prog _ (fun r h' => r = .str (joinM sep l) ∧ Ch (fun _ => False) h h') _
  have sl : ∀ h', oLenK 2 v h' = .ok (.int .i64 (l.length : Int)) h' := fun h' => s.length
  cases l with
  | nil =>
    simp (disch := omega) only [vmL, Nat.reduceEqDiff, reduceCtorEq, ↓reduceIte, vpL, vsL, vqL, Imd78, Imr78_0, Imr78_1, Imr78_2, Imr78_3, sl, List.length_nil, show ((0 : Nat) : Int) = 0 from rfl]
    exact Tells.ret (by simp only [resK, vmL, Nat.reduceEqDiff, reduceCtorEq, ↓reduceIte, vpL, vsL, vqL, tupR]; rfl) ⟨rfl, Ch.refl _ _⟩
  | cons a r =>
  obtain ⟨i0, q0, x0, hx0, e0, hi0, l0⟩ := s.at1 (m := 0) (by simp)
  rw [strs_get (show (a :: r)[0]? = some a from rfl)] at hx0
  cases hx0
  cases r with
  | nil =>
    have e0' : ∀ h', oIdxS 1 v (.int .i64 0) h' = .ok (.ptr i0 q0) h' := e0
    simp (disch := omega) only [vmL, Nat.reduceEqDiff, reduceCtorEq, ↓reduceIte, vpL, vsL, vqL, Imd78, Imr78_0, Imr78_1, Imr78_2, Imr78_4, Imr78_5, sl, List.length_cons, List.length_nil, Nat.zero_add, show ((1 : Nat) : Int) = 1 from rfl, e0', l0 h rfl]
    exact Tells.ret (r := .str (joinM sep [a])) (by simp only [resK, vmL, Nat.reduceEqDiff, reduceCtorEq, ↓reduceIte, vpL, vsL, vqL, tupR]; rfl) ⟨rfl, Ch.refl _ _⟩
  | cons a2 r2 =>
  generalize hrr : a2 :: r2 = rr at *
  have hrl : 1 ≤ rr.length := by rw [← hrr]; simp
  have hln : (a :: rr).length = rr.length + 1 := by simp
  rw [hln] at sl hn
  have hcast : ((rr.length + 1 : Nat) : Int) = (rr.length : Int) + 1 := by omega
  rw [hcast] at sl
  have hsz : sizeL (a :: rr) = a.length + sizeL rr := by simp [sizeL]
  -- how much it comes to
  obtain ⟨w0, hw0⟩ : ∃ w0, w0 = sep.length * rr.length := ⟨_, rfl⟩
  have hw : w0 ≤ 100000000 := by rw [hw0]; exact Nat.le_trans (Nat.mul_le_mul hs (show rr.length ≤ 1000000 by omega)) (by omega)
  have hmul : (sep.length : Int) * ((rr.length : Int) + 1 - 1) = (w0 : Int) := by
    rw [hw0, show (rr.length : Int) + 1 - 1 = (rr.length : Int) by omega]; simp
  have hmul0 : sep.length = 0 → w0 = 0 := fun e => by rw [hw0, e, Nat.zero_mul]
  have hq1 : (1000 : Int) ≤ Int.tdiv 9223372036854775807 ((rr.length : Int) + 1 - 1) := by
    rw [Int.tdiv_eq_ediv_of_nonneg (by omega)]
    exact Int.le_ediv_of_mul_le (by omega) (by omega)
  have hq2 : Int.tdiv 9223372036854775807 ((rr.length : Int) + 1 - 1) ≤ 9223372036854775807 := by
    rw [Int.tdiv_eq_ediv_of_nonneg (by omega)]
    exact Int.ediv_le_self _ (by omega)
  have qu : ∀ h', oBin .quo .none (.int .i64 9223372036854775807) (.int .i64 ((rr.length : Int) + 1 - 1)) h' = .ok (.int .i64 (Int.tdiv 9223372036854775807 ((rr.length : Int) + 1 - 1))) h' := fun h' => oBin_quo (by omega) (by omega) (by omega)
  have mu : ∀ h', oBin .mul .none (.int .i64 (sep.length : Int)) (.int .i64 ((rr.length : Int) + 1 - 1)) h' = .ok (.int .i64 (w0 : Int)) h' := fun h' => by rw [oBin_mul (by rw [hmul]; omega) (by rw [hmul]; omega), hmul]
  generalize hqq : Int.tdiv 9223372036854775807 ((rr.length : Int) + 1 - 1) = qq at *
  -- behind the sum of the separators
  have main : ∀ fr, fr.get (Pos.of 0) = some v → fr.get (Pos.of 1) = some (.str sep) → fr.get (Pos.of 5) = some (.int .i64 (w0 : Int)) →
      Tells Tryz.prog [.tmp 4] (fun r h' => r = .str (joinM sep (a :: rr)) ∧ Ch (fun _ => False) h h') (thenO (thenO (Imr78_11 fr h) (blkO 1 (loopO Imb78_12 lf))) (seqO Imr78_18 (seqO Imr78_19 (seqO Imr78_20 (seqO (seqO Imr78_21 (blkO 3 (loopO Imb78_22 lf))) (seqO Imr78_27 Out.ret)))))) := by
    intro fr f0 f1 f5
    simp (disch := omega) only [vmL, Nat.reduceEqDiff, reduceCtorEq, ↓reduceIte, vpL, vsL, vqL, Imr78_11, f0, sl]
    refine Oc.then (loop_rule (n := rr.length + 1) (fun m fr g => ∃ k : Nat, fr.get (Pos.of 0) = some v ∧ fr.get (Pos.of 1) = some (.str sep) ∧ fr.get (Pos.of 39) = some v ∧ fr.get (Pos.of 40) = some (.int .i64 ((rr.length : Int) + 1)) ∧ fr.get (Pos.of 41) = some (.int .i64 (k : Int)) ∧
        fr.get (Pos.of 5) = some (.int .i64 ((w0 + sizeL ((a :: rr).take k) : Nat) : Int)) ∧ k + m = rr.length + 1 ∧ g = h)
      (A := fun fr g => fr.get (Pos.of 0) = some v ∧ fr.get (Pos.of 1) = some (.str sep) ∧ fr.get (Pos.of 5) = some (.int .i64 ((w0 + sizeL (a :: rr) : Nat) : Int)) ∧ g = h) (B := fun _ _ => False) (by rw [lf_eq]; omega) ?_ ?_) ?_ ?_
    · exact ⟨0, by simp only [vmL, Nat.reduceEqDiff, reduceCtorEq, ↓reduceIte, vpL, vsL, vqL, f0], by simp only [vmL, Nat.reduceEqDiff, reduceCtorEq, ↓reduceIte, vpL, vsL, vqL, f1], by simp only [vmL, Nat.reduceEqDiff, reduceCtorEq, ↓reduceIte, vpL, vsL, vqL], by simp only [vmL, Nat.reduceEqDiff, reduceCtorEq, ↓reduceIte, vpL, vsL, vqL], by simp only [vmL, Nat.reduceEqDiff, reduceCtorEq, ↓reduceIte, vpL, vsL, vqL]; rfl, by simp only [vmL, Nat.reduceEqDiff, reduceCtorEq, ↓reduceIte, vpL, vsL, vqL, f5]; simp [sizeL], by omega, rfl⟩
    · rintro m fr g ⟨k, f0, f1, f39, f40, f41, f5, hk, rfl⟩
      by_cases hz : m = 0
      · simp (disch := omega) only [vmL, Nat.reduceEqDiff, reduceCtorEq, ↓reduceIte, vpL, vsL, vqL, Imb78_12, Imr78_12, f40, f41]
        have hk' : k = (a :: rr).length := by rw [hln]; omega
        rw [hk', List.take_length] at f5
        exact ⟨rfl, by simp only [vmL, Nat.reduceEqDiff, reduceCtorEq, ↓reduceIte, vpL, vsL, vqL, f0], by simp only [vmL, Nat.reduceEqDiff, reduceCtorEq, ↓reduceIte, vpL, vsL, vqL, f1], by simp only [vmL, Nat.reduceEqDiff, reduceCtorEq, ↓reduceIte, vpL, vsL, vqL, f5], rfl⟩
      · have hlt : k < (a :: rr).length := by rw [hln]; omega
        obtain ⟨i, q, x, hx, e1, -, e2⟩ := s.at1 hlt
        obtain ⟨t, het⟩ : ∃ t, (a :: rr)[k]? = some t := ⟨_, List.getElem?_eq_getElem hlt⟩
        rw [strs_get het] at hx
        cases hx
        have hss := sizeL_snoc ((a :: rr).take k) t
        rw [← take_snoc het] at hss
        have hle := sizeL_take (a :: rr) (k + 1)
        simp (disch := omega) only [vmL, Nat.reduceEqDiff, reduceCtorEq, ↓reduceIte, vpL, vsL, vqL, Imb78_12, Imr78_12, Imr78_13, Imr78_14, Imr78_16, Imr78_17, f5, f39, f40, f41, e1, e2 g rfl]
        exact ⟨m - 1, by omega, k + 1, by simp only [vmL, Nat.reduceEqDiff, reduceCtorEq, ↓reduceIte, vpL, vsL, vqL, f0], by simp only [vmL, Nat.reduceEqDiff, reduceCtorEq, ↓reduceIte, vpL, vsL, vqL, f1], by simp only [vmL, Nat.reduceEqDiff, reduceCtorEq, ↓reduceIte, vpL, vsL, vqL, f39], by simp only [vmL, Nat.reduceEqDiff, reduceCtorEq, ↓reduceIte, vpL, vsL, vqL, f40], by simp only [vmL, Nat.reduceEqDiff, reduceCtorEq, ↓reduceIte, vpL, vsL, vqL]; rfl, by simp only [vmL, Nat.reduceEqDiff, reduceCtorEq, ↓reduceIte, vpL, vsL, vqL]; rw [hss]; congr 2; omega, by omega, rfl⟩
    · rintro fr g ⟨f0, f1, f5, rfl⟩
      have d0 : Bd g.next.nat (g.new (.cells (.rw tBd true) [.nilp, .nils])) g.next 0 tBd [.nilp, .nils] [] :=
        ⟨Nat.le_refl _, by rw [new_next_nat]; omega, new_self _ _, .inl rfl, ⟨.nils, rfl, Ow.nil _ _ _ _, fun j hj => (by cases hj)⟩, lies_bd⟩
      obtain ⟨r3, h3, l3, e3, d3, c3, n3, -⟩ := grow_ok d0 rfl (w0 + sizeL (a :: rr)) (by omega)
      have c03 : Ch (fun j => g.next.nat ≤ j.nat) g h3 := (Ch.new (fun j => g.next.nat ≤ j.nat) g _).trans c3 fun _ _ q => q
      obtain ⟨r4, h4, l4, e4, d4, c4, -, n4⟩ := write_ok d3 a (by simp; omega)
      have c04 := c03.trans c4 fun _ _ q => q
      obtain ⟨v', es, s', cap', -⟩ := s.from hcap (by omega) (lo := 1) (by simp)
      have s4 : ∀ {g'}, Ch (fun j => g.next.nat ≤ j.nat) g g' → Sl c g' 1 v' rr.length (rr.map V.str) := fun c => by
        have := s'.ch c hc fun j hj => by have := s'.idlt hj; omega
        simpa using this
      have L0 : oLoad1 (.ptr i0 q0) h3 = .ok (.str a) h3 := l0 h3 (c03.get i0 (by omega) (by omega))
      have e0' : ∀ h', oIdxS 1 v (.int .i64 0) h' = .ok (.ptr i0 q0) h' := e0
      have es' : ∀ h', oSlice 1 v (some (.int .i64 1)) none none h' = .ok v' h' := es
      have sl' : ∀ h', oLenK 2 v' h' = .ok (.int .i64 (rr.length : Int)) h' := fun h' => (s4 c04).length
      simp (disch := omega) only [vmL, Nat.reduceEqDiff, reduceCtorEq, ↓reduceIte, vpL, vsL, vqL, Imr78_18, Imr78_19, Imr78_20, Imr78_21, f0, f1, f5, oNew_bd, e3, e0', L0, e4, es', sl']
      refine Oc.then (loop_rule (n := rr.length) (fun m fr g' => ∃ (k : Nat) (lb : List V), fr.get (Pos.of 1) = some (.str sep) ∧ fr.get (Pos.of 8) = some (.ptr g.next 0) ∧ fr.get (Pos.of 63) = some v' ∧ fr.get (Pos.of 64) = some (.int .i64 (rr.length : Int)) ∧ fr.get (Pos.of 65) = some (.int .i64 (k : Int)) ∧
          k + m = rr.length ∧ Bd g.next.nat g' g.next 0 tBd lb (a ++ joinT sep (rr.take k)) ∧ Ch (fun j => g.next.nat ≤ j.nat) g g')
        (A := fun fr g' => fr.get (Pos.of 8) = some (.ptr g.next 0) ∧ ∃ lb, Bd g.next.nat g' g.next 0 tBd lb (joinM sep (a :: rr)) ∧ Ch (fun j => g.next.nat ≤ j.nat) g g') (B := fun _ _ => False) (by rw [lf_eq]; omega) ?_ ?_) ?_ ?_
      · exact ⟨0, l4, by simp only [vmL, Nat.reduceEqDiff, reduceCtorEq, ↓reduceIte, vpL, vsL, vqL, f1], by simp only [vmL, Nat.reduceEqDiff, reduceCtorEq, ↓reduceIte, vpL, vsL, vqL], by simp only [vmL, Nat.reduceEqDiff, reduceCtorEq, ↓reduceIte, vpL, vsL, vqL], by simp only [vmL, Nat.reduceEqDiff, reduceCtorEq, ↓reduceIte, vpL, vsL, vqL], by simp only [vmL, Nat.reduceEqDiff, reduceCtorEq, ↓reduceIte, vpL, vsL, vqL]; rfl, by omega, by simpa [joinT] using d4, c04⟩
      · rintro m fr g' ⟨k, lb, f1, f8, f63, f64, f65, hk, db, cg⟩
        by_cases hz : m = 0
        · simp (disch := omega) only [vmL, Nat.reduceEqDiff, reduceCtorEq, ↓reduceIte, vpL, vsL, vqL, Imb78_22, Imr78_22, f64, f65]
          have hk' : k = rr.length := by omega
          rw [hk', List.take_length, ← joinM_cons] at db
          exact ⟨rfl, by simp only [vmL, Nat.reduceEqDiff, reduceCtorEq, ↓reduceIte, vpL, vsL, vqL, f8], lb, db, cg⟩
        · have hlt : k < rr.length := by omega
          obtain ⟨i, q, x, hx, e1, -, e2⟩ := (s4 cg).at1 hlt
          obtain ⟨t, het⟩ : ∃ t, rr[k]? = some t := ⟨_, List.getElem?_eq_getElem hlt⟩
          rw [strs_get het] at hx
          cases hx
          have hlen : (a ++ joinT sep (rr.take (k + 1))).length ≤ 900000000 := by
            rw [List.length_append, joinT_len]
            have h1 := sizeL_take rr (k + 1)
            have h2 : sep.length * (rr.take (k + 1)).length ≤ 100 * 1000000 := Nat.mul_le_mul hs (by rw [List.length_take]; omega)
            omega
          rw [take_snoc het, joinT_snoc] at hlen
          obtain ⟨r5, h5, l5, e5, d5, c5, -, -⟩ := write_ok db sep (by simp at hlen ⊢; omega)
          obtain ⟨r6, h6, l6, e6, d6, c6, -, -⟩ := write_ok d5 t (by simp at hlen ⊢; omega)
          simp (disch := omega) only [vmL, Nat.reduceEqDiff, reduceCtorEq, ↓reduceIte, vpL, vsL, vqL, Imb78_22, Imr78_22, Imr78_23, Imr78_24, Imr78_25, Imr78_26, f1, f8, f63, f64, f65, e1, e2 g' rfl, e5, e6]
          refine ⟨m - 1, by omega, k + 1, l6, by simp only [vmL, Nat.reduceEqDiff, reduceCtorEq, ↓reduceIte, vpL, vsL, vqL, f1], by simp only [vmL, Nat.reduceEqDiff, reduceCtorEq, ↓reduceIte, vpL, vsL, vqL, f8], by simp only [vmL, Nat.reduceEqDiff, reduceCtorEq, ↓reduceIte, vpL, vsL, vqL, f63], by simp only [vmL, Nat.reduceEqDiff, reduceCtorEq, ↓reduceIte, vpL, vsL, vqL, f64], by simp only [vmL, Nat.reduceEqDiff, reduceCtorEq, ↓reduceIte, vpL, vsL, vqL]; rfl, by omega, ?_, (cg.trans c5 fun _ _ q => q).trans c6 fun _ _ q => q⟩
          rw [take_snoc het, joinT_snoc]
          simpa using d6
      · rintro fr g' ⟨f8, lb, db, cg⟩
        have hj : joinM sep (a :: rr) ≠ [] := by
          rcases hne with hne | hne
          · rw [hln] at hne; omega
          · exact hne
        have hjl : (joinM sep (a :: rr)).length ≤ 1000000000 := by
          have e3 := joinT_len sep rr
          rw [joinM_cons, List.length_append, e3, ← hw0]
          omega
        have hjb : ∀ c ∈ joinM sep (a :: rr), c < 256 := by
          intro x hx
          rw [joinM_cons, List.mem_append] at hx
          rcases hx with hx | hx
          · exact hb a (by simp) x hx
          · unfold joinT at hx
            obtain ⟨y, hy, hxy⟩ := List.mem_flatten.1 hx
            obtain ⟨t, ht', rfl⟩ := List.mem_map.1 hy
            rcases List.mem_append.1 hxy with q | q
            · exact hsb x q
            · exact hb t (by simp [ht']) x q
        obtain ⟨h7, e7, c7, -⟩ := string_ok db hj hjb hjl
        simp (disch := omega) only [vmL, Nat.reduceEqDiff, reduceCtorEq, ↓reduceIte, vpL, vsL, vqL, Imr78_27, f8, e7]
        refine Tells.ret (r := .str (joinM sep (a :: rr))) (by simp only [resK, vmL, Nat.reduceEqDiff, reduceCtorEq, ↓reduceIte, vpL, vsL, vqL, tupR]; rfl) ⟨rfl, ?_⟩
        exact ⟨by have := cg.next; have := c7.next; omega, fun j hj hn => (c7.get j (by have := cg.next; omega) (by omega)).trans (cg.get j hj (by omega))⟩
      · intro fr g q; exact q.elim
    · intro fr g q; exact q.elim
  by_cases hsp : sep.length = 0
  · have := hmul0 hsp
    simp (disch := omega) only [vmL, Nat.reduceEqDiff, reduceCtorEq, ↓reduceIte, vpL, vsL, vqL, Imd78, Imr78_0, Imr78_1, Imr78_2, Imr78_4, Imr78_6, Imr78_7, sl, hln, hcast]
    exact main _ (by simp only [vmL, Nat.reduceEqDiff, reduceCtorEq, ↓reduceIte, vpL, vsL, vqL]) (by simp only [vmL, Nat.reduceEqDiff, reduceCtorEq, ↓reduceIte, vpL, vsL, vqL]) (by simp only [vmL, Nat.reduceEqDiff, reduceCtorEq, ↓reduceIte, vpL, vsL, vqL]; rw [this]; rfl)
  · simp (disch := omega) only [vmL, Nat.reduceEqDiff, reduceCtorEq, ↓reduceIte, vpL, vsL, vqL, Imd78, Imr78_0, Imr78_1, Imr78_2, Imr78_4, Imr78_6, Imr78_7, Imr78_8, Imr78_10, sl, hln, hcast, qu, mu]
    simp only [Int.zero_add]
    exact main _ (by simp only [vmL, Nat.reduceEqDiff, reduceCtorEq, ↓reduceIte, vpL, vsL, vqL]) (by simp only [vmL, Nat.reduceEqDiff, reduceCtorEq, ↓reduceIte, vpL, vsL, vqL]) (by simp only [vmL, Nat.reduceEqDiff, reduceCtorEq, ↓reduceIte, vpL, vsL, vqL])
end Go.Proofs.Im

noncomputable section
namespace Go.Vm
variable {h h' : Hp}
def ansV (k : Int) (t : List Nat) (last bare : Bool) : V := .agg (.cons (.int .i64 k) (.cons (.str t) (.cons (.bool last) (.cons (.bool bare) (.cons (.bool false) .nil)))))
def ansL (k : Int) (t : List Nat) (last bare : Bool) : List V := [.int .i64 k, .str t, .bool last, .bool bare, .bool false]
theorem oBuild_an2 (k : Int) (s : List Nat) : oBuild [.int .i64 0, .str [], .bool false, .bool false, .bool false] [(0, 1, .int .i64 k), (1, 1, .str s)] h = .ok (ansV k s false false) h := (rfl)
theorem oBuild_an0 : oBuild [.int .i64 0, .str [], .bool false, .bool false, .bool false] [] h = .ok (ansV 0 [] false false) h := (rfl)
theorem oBuild_anB : oBuild [.int .i64 0, .str [], .bool false, .bool false, .bool false] [(2, 1, .bool true), (3, 1, .bool true)] h = .ok (ansV 0 [] true true) h := (rfl)
theorem oNew_an (t : TypeId) : oNew t [.int .i64 0, .str [], .bool false, .bool false, .bool false] h = .ok (.ptr h.next 0) (h.new (.cells (.rw t true) [.int .i64 0, .str [], .bool false, .bool false, .bool false])) := (rfl)
theorem stAn {i : Pos} {t : TypeId} {f : Bool} {x y z u v : V} {k : Int} {s : List Nat} {a b : Bool} (hg : h.get i = some (.cells (.rw t f) [x, y, z, u, v])) : oStore 5 (.ptr i 0) (ansV k s a b) h = .ok V.undef (h.put i (some (.cells (.rw t f) (ansL k s a b)))) := by
  rw [oStore_row hg rfl rfl]
  rfl
theorem ldAn {i : Pos} {wr : Wr} {k : Int} {s : List Nat} {a b : Bool} (hg : h.get i = some (.cells wr (ansL k s a b))) : oLoadN 5 (.ptr i 0) h = .ok (ansV k s a b) h := by
  show hCells h i (fun _ cs => match takeV 5 (dropV 0 cs) with | some l => R.ok (V.agg (V.ofList l)) h | none => .bad) = _
  rw [hCells_rowA (wr := wr) (all := ansL k s a b) (by rw [hg]; rfl)]
  rfl
theorem fill_ch (h : Hp) (o o' : Ob) : Ch (fun _ => False) h ((h.new o).put h.next (some o')) :=
  (Ch.new (fun _ => False) h o).trans (Ch.put (S := fun j => j = h.next) _ _ rfl) fun j hj q => by rw [q] at hj; omega
end Go.Vm
namespace Go.Ln
open Go Go.Vm Go.Proofs.Im
theorem Wds.get?_ge : ∀ {ws : Wds} {k : Nat}, k < ws.len → ∃ w, ws.get? k = some w
  | .nil, _, h => absurd h (by simp [Wds.len])
  | .cons k t ks _, 0, _ => ⟨_, rfl⟩
  | .cons _ _ _ r, n + 1, h => by simp only [Wds.len] at h; exact Wds.get?_ge (ws := r) (k := n) (by omega)
def Wds.drop : Wds → Nat → Wds
  | w, 0 => w
  | .nil, _ + 1 => .nil
  | .cons _ _ _ r, n + 1 => r.drop n
theorem Wds.len_drop : ∀ {ws : Wds} {k : Nat}, (ws.drop k).len = ws.len - k
  | .nil, 0 => rfl
  | .nil, k + 1 => by simp [Wds.drop, Wds.len]
  | .cons _ _ _ _, 0 => rfl
  | .cons _ _ _ r, k + 1 => by simp only [Wds.drop, Wds.len]; rw [Wds.len_drop (ws := r)]; omega
theorem Wds.get?_drop : ∀ {ws : Wds} {k m : Nat}, (ws.drop k).get? m = ws.get? (k + m)
  | .nil, 0, m => by simp [Wds.drop]
  | .nil, k + 1, m => by simp [Wds.drop, Wds.get?]
  | .cons _ _ _ _, 0, m => by simp [Wds.drop]
  | .cons _ _ _ r, k + 1, m => by rw [show k + 1 + m = (k + m) + 1 by omega]; simp only [Wds.drop, Wds.get?]; exact Wds.get?_drop
theorem WAt.drop {P : Pos → Prop} {h : Hp} : ∀ {ws : Wds} {cs : List V} {k : Nat}, WAt P h ws cs → WAt P h (ws.drop k) (cs.drop (k * 3))
  | .nil, _, 0, w => w
  | .nil, cs, k + 1, w => by rw [show cs = [] from w]; simp [Wds.drop, WAt]
  | .cons _ _ _ _, _, 0, w => by simpa [Wds.drop] using w
  | .cons _ _ _ r, _, k + 1, ⟨vk, ck, cr, e, o, p, a, b⟩ => by
    rw [e, show (k + 1) * 3 = 3 + k * 3 by omega, ← List.drop_drop]
    exact WAt.drop (ws := r) b
def WS (P : Pos → Prop) (h : Hp) (v : V) (ws : Wds) : Prop := ∃ cs, Sl h.next.nat h 3 v ws.len cs ∧ capOk 3 v ∧ (∀ j, idOf v = some j → P j) ∧ WAt P h ws cs
theorem WRow.ws {P : Pos → Prop} {h : Hp} {v : V} {ws : Wds} (t : WRow P h v ws) : WS P h v ws := by
  obtain ⟨cs, o, p, a⟩ := t
  refine ⟨cs, o.sl, ?_, p, a⟩
  intro i q n c e
  rcases o.is with ⟨_, e'⟩ | ⟨_, e', _⟩
  · rw [e'] at e; cases e
  · rw [e'] at e; cases e; rfl
theorem WS.ch {P P' S : Pos → Prop} {h h' : Hp} {v : V} {ws : Wds} (t : WS P h v ws) (c : Ch S h h') (hs : ∀ j : Pos, j.nat < h.next.nat → P j → P' j ∧ ¬ S j) : WS P' h' v ws := by
  obtain ⟨cs, o, k, p, a⟩ := t
  exact ⟨cs, (o.ch c (Nat.le_refl _) fun j hj => (hs j (o.idlt hj) (p j hj)).2).le c.next, k, fun j hj => (hs j (o.idlt hj) (p j hj)).1, a.ch c hs⟩
theorem WS.len {P : Pos → Prop} {h : Hp} {v : V} {ws : Wds} (t : WS P h v ws) (h' : Hp) : oLenK 2 v h' = .ok (.int .i64 (ws.len : Int)) h' := by
  obtain ⟨cs, o, -⟩ := t
  exact o.length
theorem WS.cell {P : Pos → Prop} {h : Hp} {v : V} {ws : Wds} (t : WS P h v ws) : v.cells = [v] ∧ notTuple v = true := by
  obtain ⟨cs, o, -⟩ := t
  exact o.cell
theorem WS.from {P : Pos → Prop} {h : Hp} {v : V} {ws : Wds} (t : WS P h v ws) {k : Nat} (hk : k ≤ ws.len) : ∃ v', (∀ h', oSlice 3 v (some (.int .i64 (k : Int))) none none h' = .ok v' h') ∧ WS P h v' (ws.drop k) := by
  obtain ⟨cs, o, c, p, a⟩ := t
  obtain ⟨v', e, s, c', i⟩ := o.from c (by omega) hk
  exact ⟨v', e, cs.drop (k * 3), by rw [Wds.len_drop]; exact s, c', fun j hj => p j (i j hj), a.drop⟩
def atomW (w : Wds) (k : Nat) : Bool := match w.get? k with | some x => decide (x.kind = 1) | none => false
end Go.Ln
namespace Go.Proofs.Im
open Go Go.Proofs Go.Vm Go.Ln
set_option linter.unusedVariables false
set_option maxRecDepth 100000
set_option linter.unusedSimpArgs false
theorem dLoadAn (x : V) (h : Hp) : dLoad Tryz.prog tA x h = oLoadN 5 x h := by kernel_rfl
theorem WS.at {P : Pos → Prop} {h : Hp} {v : V} {ws : Wds} (t : WS P h v ws) {k : Nat} {w : Wd} (e : ws.get? k = some w) :
    ∃ j q vk, (∀ h', oIdxS 3 v (.int .i64 (k : Int)) h' = .ok (.ptr j q) h') ∧ oLoad1 (.ptr j q) h = .ok (.int .i64 w.kind) h ∧ oLoad1 (.ptr j (q + 1)) h = .ok (.str w.text) h ∧ oLoad1 (.ptr j (q + 2)) h = .ok vk h ∧ WRow P h vk w.kids := by
  obtain ⟨cs, o, -, i, x⟩ := t
  have hk := Wds.get?_lt e
  obtain ⟨j, q, e1, -, e2⟩ := o.at hk
  obtain ⟨c0, c1, vk, c2, w1⟩ := WAt.get x e
  exact ⟨j, q, vk, e1, e2 h rfl 0 _ (by omega) c0, e2 h rfl 1 _ (by omega) c1, e2 h rfl 2 _ (by omega) c2, w1⟩
theorem say_ok {b c : Nat} {h : Hp} {i : Pos} {t : TypeId} {L : List V} {s : List Nat} {v : V} {l : List (List Nat)} (d : Bd b h i 5 t L s) (sl : Sl c h 1 v l.length (l.map V.str)) (hcap : capOk 1 v) (hc : c ≤ h.next.nat)
    (hn : l.length ≤ 1000000) (ht : sizeL l ≤ 100000000) (hb : ∀ t ∈ l, ∀ c ∈ t, c < 256) (hj : l.length ≤ 1 ∨ joinM [32] l ≠ []) (hs : s.length + (joinM [32] l).length + 2 ≤ 1000000000) :
    ∃ r h' L', ImF57 [.ptr i 0, v] h = .ok r h' ∧ Bd b h' i 5 t L' (s ++ (joinM [32] l ++ [13, 10])) ∧ Stp (OfB i 5 L) h (OfB i 5 L') h' ∧ (∀ k, k ≠ 5 → k ≠ 6 → L'[k]? = L[k]?) ∧ L'.length = L.length := by
  obtain ⟨r1, h1, e1, rfl, c1⟩ := join_okT sl hcap hc hn (by simp) ht hb (by simp) hj
  have d1 := d.ch c1 fun _ _ _ q => q
  obtain ⟨r2, h2, L2, e2, d2, c2, k2, n2⟩ := write_st d1 (joinM [32] l) (by omega)
  obtain ⟨r3, h3, L3, e3, d3, c3, k3, n3⟩ := write_st d2 [13, 10] (by simp; omega)
  rw [ImF57_eq]
  simp (disch := omega) only [vmL, Nat.reduceEqDiff, reduceCtorEq, ↓reduceIte, vpL, vsL, vqL, Imd57, Imr57_0, Imr57_1, e1, e2, e3]
  refine ⟨_, h3, L3, rfl, by rw [← List.append_assoc]; exact d3, (((Stp.refl (OfB i 5 L) h).step c1 fun _ q => q.elim).trans c2).trans c3, fun k a b => (k3 k a b).trans (k2 k a b), n3.trans n2⟩
theorem wrong_ok (h : Hp) : ∃ h', ImF56 [] h = .ok (ansV 2 [119, 111, 114, 100, 115] false false) h' ∧ Ch (fun _ => False) h h' := by
  rw [ImF56_eq]
  simp (disch := omega) only [vmL, Nat.reduceEqDiff, reduceCtorEq, ↓reduceIte, vpL, vsL, vqL, Imd56, Imr56_0, Imr56_1, oNew_an, oBuild_an2, stAn (new_self _ _)]
  exact ⟨_, by simp only [outR, resK, vmL, Nat.reduceEqDiff, reduceCtorEq, ↓reduceIte, vpL, vsL, vqL, dLoadAn, ldAn (put_self _ _ _), tupR]; rfl, fill_ch _ _ _⟩
theorem state_ok (h : Hp) : ∃ h', ImF86 [] h = .ok (ansV 1 [115, 116, 97, 116, 101] false false) h' ∧ Ch (fun _ => False) h h' := by
  rw [ImF86_eq]
  simp (disch := omega) only [vmL, Nat.reduceEqDiff, reduceCtorEq, ↓reduceIte, vpL, vsL, vqL, Imd86, Imr86_0, Imr86_1, oNew_an, oBuild_an2, stAn (new_self _ _)]
  exact ⟨_, by simp only [outR, resK, vmL, Nat.reduceEqDiff, reduceCtorEq, ↓reduceIte, vpL, vsL, vqL, dLoadAn, ldAn (put_self _ _ _), tupR]; rfl, fill_ch _ _ _⟩
theorem imAtom_ok {P : Pos → Prop} {h : Hp} {v : V} {w : Wds} (t : WS P h v w) (k : Nat) : ImF119 [v, .int .i64 (k : Int)] h = .ok (.bool (atomW w k)) h := by
  rw [ImF119_eq]
  by_cases hk : k < w.len
  · obtain ⟨x, hx⟩ := Wds.get?_ge hk
    obtain ⟨j, q, vk, e1, e2, e3, e4, w1⟩ := WS.at t hx
    simp (disch := omega) only [vmL, Nat.reduceEqDiff, reduceCtorEq, ↓reduceIte, vpL, vsL, vqL, Imd119, Imr119_0, Imr119_1, WS.len t, e1, e2, Nat.add_zero]
    simp only [outR, resK, vmL, Nat.reduceEqDiff, reduceCtorEq, ↓reduceIte, vpL, vsL, vqL, tupR]
    unfold atomW
    rw [hx]
  · simp (disch := omega) only [vmL, Nat.reduceEqDiff, reduceCtorEq, ↓reduceIte, vpL, vsL, vqL, Imd119, Imr119_0, Imr119_1, WS.len t]
    simp only [outR, resK, vmL, Nat.reduceEqDiff, reduceCtorEq, ↓reduceIte, vpL, vsL, vqL, tupR]
    unfold atomW
    cases hx : w.get? k with
    | none => rfl
    | some x => exact absurd (Wds.get?_lt hx) hk
end Go.Proofs.Im
