/- Part of the value machine, or of a walk by it: lemmas that the claim's last text uses. No conditions. -/
import Derived.Test.YtfaolchpaooboaaGreatDoorJfVmO
import Derived.Test.YtfaolchpaooboaaGreatDoorJfJmE
set_option linter.unusedVariables false
set_option linter.unusedSimpArgs false
set_option linter.unnecessarySimpa false
noncomputable section
namespace Go.Proofs.Jm
open Go Go.Proofs Go.Vm
set_option linter.unusedVariables false
set_option maxRecDepth 100000
set_option linter.unusedSimpArgs false
section
variable {h : Hp} {p : Pos} {ty : TypeId} {v : V} {n : Nat} {cs : List V}
theorem ldw {h : Hp} {i : Pos} {wr : Wr} {l : List V} {q : Nat} {v : V} (hg : h.get i = some (.cells wr l)) (hq : l[q]? = some v) : oLoad1 (.ptr i q) h = .ok v h := by rw [ld_get hg, hq]
theorem check_set (hg : h.get p = some (.cells (.rw ty true) [.ptr p 0, v])) : JmF256 [.ptr p 0] h = .ok (.tuple .nil) h := by
  have L0 : oLoad1 (.ptr p 0) h = .ok (.ptr p 0) h := ldw hg rfl
  have N : oBin .neq (.ptr 2) (.ptr p 0) (.ptr p 0) h = .ok (.bool false) h := ptr_neq_self rfl p 0
  rw [JmF256_eq]
  simp (disch := omega) only [vmL, Nat.reduceEqDiff, reduceCtorEq, ↓reduceIte, vpL, vsL, vqL, Jmd256, Jmr256_0, Jmr256_2, L0, ptr_eql_nil, N]
  simp only [outR, resK, vmL, Nat.reduceEqDiff, reduceCtorEq, ↓reduceIte, vpL, vsL, vqL, tupR]
  rfl
theorem bsv (t : TypeId) (c : Int) (h : Hp) : oBuildSlice t [.int .u8 0] 1 [(0, 1, .int .u8 c)] h = .ok (.slice h.next 0 1 (.kn 1)) (h.new (.cells (.rw t true) [.int .u8 c])) := rfl
theorem wbyte (hg : h.get p = some (.cells (.rw ty true) [.ptr p 0, v])) (hp : p.nat < h.next.nat) (ov : Ow 0 h 5 1 v n cs) (hv : idOf v ≠ some p) (hn : n < 1000000000) (c : Int) :
    ∃ v' h', JmF258 [.ptr p 0, .int .u8 c] h = .ok .nili h' ∧ h'.get p = some (.cells (.rw ty true) [.ptr p 0, v']) ∧ Ow 0 h' 5 1 v' (n + 1) (cs ++ [.int .u8 c]) ∧ Ch (fun j => j = p ∨ idOf v = some j) h h' ∧ (∀ j, idOf v' = some j → h.next.nat ≤ j.nat) ∧ v'.cells = [v'] := by
  have C := check_set hg
  have L1 : oLoad1 (.ptr p 1) h = .ok v h := ldw hg rfl
  obtain ⟨v', h1, e1, e2, o1, c1, n1⟩ := app1_ok (bt := 1) (new := [.int .u8 c]) ov rfl (by omega)
  have g1 : h1.get p = some (.cells (.rw ty true) [.ptr p 0, v]) := (c1.get p hp fun q => hv q).trans hg
  have S1 : oStore 1 (.ptr p 1) v' h1 = .ok V.undef (h1.put p (some (.cells (.rw ty true) [.ptr p 0, v']))) := st_get g1 (by rw [e2]; exact ⟨rfl, rfl⟩) (by simp)
  have idv : ∀ j, idOf v' = some j → h.next.nat ≤ j.nat := fun j hj => by rw [e2] at hj; cases hj; rw [Pos.nat_succ]; omega
  refine ⟨v', h1.put p (some (.cells (.rw ty true) [.ptr p 0, v'])), ?_, put_self _ _ _, o1.ch (Ch.put (S := fun j => j = p) _ _ rfl) fun i hi e => by have := idv i hi; rw [e] at this; omega,
    (c1.mono fun j _ q => .inr q).trans (Ch.put (S := fun j => j = p) _ _ rfl) fun j _ q => .inl q, idv, by rw [e2]; rfl⟩
  rw [JmF258_eq]
  simp (disch := omega) only [vmL, Nat.reduceEqDiff, reduceCtorEq, ↓reduceIte, vpL, vsL, vqL, Jmd258, Jmr258_0, Jmr258_1, Jmr258_2, Jmr258_3, C, L1, bsv, e1, S1]
  simp only [outR, resK, vmL, Nat.reduceEqDiff, reduceCtorEq, ↓reduceIte, vpL, vsL, vqL, tupR]
def okW (c : Nat) : Prop := 32 ≤ c ∧ c < 256 ∧ c ≠ 34 ∧ c ≠ 92
theorem wtextT {q : List Nat} (hg : h.get p = some (.cells (.rw ty true) [.ptr p 0, v])) (hp : p.nat < h.next.nat) (ov : Ow 0 h 5 1 v n cs) (hv : idOf v ≠ some p) (hn : n + q.length < 100000000) (hq : ∀ c ∈ q, okW c) :
    ∃ r h', JmF203 [.ptr p 0, .str q] h = .ok r h' ∧ r = .tuple .nil ∧ ∃ v', h'.get p = some (.cells (.rw ty true) [.ptr p 0, v']) ∧ Ow 0 h' 5 1 v' (n + q.length + 2) (cs ++ bys (34 :: (q ++ [34]))) ∧ Ch (fun j => j = p ∨ idOf v = some j) h h' ∧ (∀ j, idOf v' = some j → h.next.nat ≤ j.nat) := by
  obtain ⟨v1, h1, e1, g1, o1, c1, i1, -⟩ := wbyte hg hp ov hv (by omega) 34
  have n1 := c1.next
  rw [JmF203_eq]
  show Tells Tryz.prog _ (fun r h' => r = .tuple .nil ∧ ∃ v', h'.get p = some (.cells (.rw ty true) [.ptr p 0, v']) ∧ Ow 0 h' 5 1 v' (n + q.length + 2) (cs ++ bys (34 :: (q ++ [34]))) ∧ Ch (fun j => j = p ∨ idOf v = some j) h h' ∧ (∀ j, idOf v' = some j → h.next.nat ≤ j.nat)) _
  simp (disch := omega) only [vmL, Nat.reduceEqDiff, reduceCtorEq, ↓reduceIte, vpL, vsL, vqL, Jmd203, Jmr203_0, Jmr203_1, e1]
  refine Oc.then (loop_rule (n := q.length) (fun m fr g => ∃ (k : Nat) (u : V), fr.get (Pos.of 0) = some (.ptr p 0) ∧ fr.get (Pos.of 1) = some (.str q) ∧ fr.get (Pos.of 11) = some (.int .i64 (q.length : Int)) ∧ fr.get (Pos.of 12) = some (.int .i64 (k : Int)) ∧ k + m = q.length ∧
      g.get p = some (.cells (.rw ty true) [.ptr p 0, u]) ∧ Ow 0 g 5 1 u (n + 1 + k) (cs ++ bys (34 :: q.take k)) ∧ Ch (fun j => j = p ∨ idOf v = some j) h g ∧ (∀ j, idOf u = some j → h.next.nat ≤ j.nat))
    (A := fun fr g => fr.get (Pos.of 0) = some (.ptr p 0) ∧ ∃ u, g.get p = some (.cells (.rw ty true) [.ptr p 0, u]) ∧ Ow 0 g 5 1 u (n + 1 + q.length) (cs ++ bys (34 :: q)) ∧ Ch (fun j => j = p ∨ idOf v = some j) h g ∧ (∀ j, idOf u = some j → h.next.nat ≤ j.nat)) (B := fun _ _ => False) (by rw [lf_eq]; omega) ?_ ?_) ?_ ?_
  · exact ⟨0, v1, by simp only [vmL, Nat.reduceEqDiff, reduceCtorEq, ↓reduceIte, vpL, vsL, vqL], by simp only [vmL, Nat.reduceEqDiff, reduceCtorEq, ↓reduceIte, vpL, vsL, vqL], by simp only [vmL, Nat.reduceEqDiff, reduceCtorEq, ↓reduceIte, vpL, vsL, vqL], by simp only [vmL, Nat.reduceEqDiff, reduceCtorEq, ↓reduceIte, vpL, vsL, vqL]; rfl, by omega, g1, by simpa [bys] using o1, c1, i1⟩
  · rintro m fr g ⟨k, u, f0, f1, f11, f12, hk, gp, ou, cg, iu⟩
    have hn' := cg.next
    by_cases hz : m = 0
    · have hkq : k = q.length := by omega
      subst hkq
      simp (disch := omega) only [vmL, Nat.reduceEqDiff, reduceCtorEq, ↓reduceIte, vpL, vsL, vqL, Jmb203_2, Jmr203_2, f11, f12]
      refine ⟨rfl, by simp only [vmL, Nat.reduceEqDiff, reduceCtorEq, ↓reduceIte, vpL, vsL, vqL, f0], u, gp, ?_, cg, iu⟩
      rw [List.take_length] at ou
      exact ou
    · have hlt : k < q.length := by omega
      have hc := hq _ (List.getElem_mem hlt)
      have htk : q.take (k + 1) = q.take k ++ [q[k]] := by rw [List.take_add_one, List.getElem?_eq_getElem hlt]; rfl
      have ix : ∀ h, oIdxStr (.str q) (.int .i64 (k : Int)) h = .ok (.int .u8 ((q[k] : Nat) : Int)) h := fun h => oIdxStr_ok (List.getElem?_eq_getElem hlt)
      generalize q[k] = c at hc htk ix
      have hup : idOf u ≠ some p := fun e => by have := iu p e; omega
      obtain ⟨u', g', e', gp', o', c', iu', -⟩ := wbyte gp (by omega) ou hup (by omega) (c : Int)
      have d34 : decide ((c : Int) = 34) = false := decide_eq_false (by have := hc.2.2.1; omega)
      have d92 : decide ((c : Int) = 92) = false := decide_eq_false (by have := hc.2.2.2; omega)
      have d32 : decide ((c : Int) ≥ 32) = true := decide_eq_true (by have := hc.1; omega)
      simp (disch := omega) only [vmL, Nat.reduceEqDiff, reduceCtorEq, ↓reduceIte, vpL, vsL, vqL, Jmb203_2, Jmr203_2, Jmr203_3, Jmr203_4, Jmr203_8, Jmr203_11, Jmr203_12, Jmr203_23, f0, f1, f11, f12, ix, d34, d92, d32, e']
      refine ⟨m - 1, by omega, k + 1, u', by simp only [vmL, Nat.reduceEqDiff, reduceCtorEq, ↓reduceIte, vpL, vsL, vqL, f0], by simp only [vmL, Nat.reduceEqDiff, reduceCtorEq, ↓reduceIte, vpL, vsL, vqL, f1], by simp only [vmL, Nat.reduceEqDiff, reduceCtorEq, ↓reduceIte, vpL, vsL, vqL, f11], by simp only [vmL, Nat.reduceEqDiff, reduceCtorEq, ↓reduceIte, vpL, vsL, vqL]; rfl, by omega, gp', ?_, cg.trans c' fun j hj q => ?_, fun j hj => by have := iu' j hj; omega⟩
      · rw [htk]
        have : cs ++ bys (34 :: (q.take k ++ [c])) = (cs ++ bys (34 :: q.take k)) ++ [V.int .u8 (c : Int)] := by simp [bys]
        rw [this]
        exact o'
      · rcases q with q | q
        · exact .inl q
        · have := iu j q; omega
  · rintro fr g ⟨f0, u, gp, ou, cg, iu⟩
    have hn' := cg.next
    have hup : idOf u ≠ some p := fun e => by have := iu p e; omega
    obtain ⟨u', g', e', gp', o', c', iu', -⟩ := wbyte gp (by omega) ou hup (by omega) 34
    simp (disch := omega) only [vmL, Nat.reduceEqDiff, reduceCtorEq, ↓reduceIte, vpL, vsL, vqL, Jmr203_24, f0, e']
    refine Tells.nor (by simp only [resK, tupR]; rfl) ⟨rfl, u', gp', ?_, cg.trans c' fun j hj q => ?_, fun j hj => by have := iu' j hj; omega⟩
    · have : cs ++ bys (34 :: (q ++ [34])) = (cs ++ bys (34 :: q)) ++ [V.int .u8 34] := by simp [bys]
      rw [this, show n + q.length + 2 = n + 1 + q.length + 1 by omega]
      exact o'
    · rcases q with q | q
      · exact .inl q
      · have := iu j q; omega
  · intro fr g q; exact q.elim
end
end Go.Proofs.Jm

noncomputable section
namespace Go.Proofs.Jm
open Go Go.Proofs Go.Vm
set_option linter.unusedVariables false
set_option maxRecDepth 100000
set_option linter.unusedSimpArgs false
section
variable {h : Hp} {v : V} {n : Nat} {cs : List V}
theorem quoteT {q : List Nat} (ov : Ow 0 h 5 1 v n cs) (hn : n + q.length < 100000000) (hq : ∀ c ∈ q, okW c) :
    ∃ r h', JmF222 [v, .str q] h = .ok r h' ∧ Ow 0 h' 5 1 r (n + q.length + 2) (cs ++ bys (34 :: (q ++ [34]))) ∧ Ch (fun j => idOf v = some j) h h' ∧ (∀ j, idOf r = some j → h.next.nat ≤ j.nat) := by
  obtain ⟨v1, h1, e1, e1', o1, c1, n1⟩ := app1_ok (bt := 1) (new := [.int .u8 34]) ov rfl (by omega)
  have i1 : ∀ j, idOf v1 = some j → h.next.nat ≤ j.nat := fun j hj => by rw [e1'] at hj; cases hj; rw [Pos.nat_succ]; omega
  rw [JmF222_eq]
  show Tells Tryz.prog _ (fun r h' => Ow 0 h' 5 1 r (n + q.length + 2) (cs ++ bys (34 :: (q ++ [34]))) ∧ Ch (fun j => idOf v = some j) h h' ∧ (∀ j, idOf r = some j → h.next.nat ≤ j.nat)) _
  simp (disch := omega) only [vmL, Nat.reduceEqDiff, reduceCtorEq, ↓reduceIte, vpL, vsL, vqL, Jmd222, Jmr222_0, Jmr222_1, Jmr222_2, bsv, e1]
  refine Oc.then (loop_rule (n := q.length) (fun m fr g => ∃ (k : Nat) (u : V), fr.get (Pos.of 0) = some u ∧ fr.get (Pos.of 1) = some (.str q) ∧ fr.get (Pos.of 5) = some (.int .i64 (k : Int)) ∧ k + m = q.length ∧
      Ow 0 g 5 1 u (n + 1 + k) (cs ++ bys (34 :: q.take k)) ∧ Ch (fun j => idOf v = some j) h g ∧ (∀ j, idOf u = some j → h.next.nat ≤ j.nat))
    (A := fun fr g => ∃ u, fr.get (Pos.of 0) = some u ∧ Ow 0 g 5 1 u (n + 1 + q.length) (cs ++ bys (34 :: q)) ∧ Ch (fun j => idOf v = some j) h g ∧ (∀ j, idOf u = some j → h.next.nat ≤ j.nat)) (B := fun _ _ => False) (by rw [lf_eq]; omega) ?_ ?_) ?_ ?_
  · exact ⟨0, v1, by simp only [vmL, Nat.reduceEqDiff, reduceCtorEq, ↓reduceIte, vpL, vsL, vqL], by simp only [vmL, Nat.reduceEqDiff, reduceCtorEq, ↓reduceIte, vpL, vsL, vqL], by simp only [vmL, Nat.reduceEqDiff, reduceCtorEq, ↓reduceIte, vpL, vsL, vqL]; rfl, by omega, by simpa [bys] using o1, c1, i1⟩
  · rintro m fr g ⟨k, u, f0, f1, f5, hk, ou, cg, iu⟩
    have hn' := cg.next
    by_cases hz : m = 0
    · have hkq : k = q.length := by omega
      subst hkq
      simp (disch := omega) only [vmL, Nat.reduceEqDiff, reduceCtorEq, ↓reduceIte, vpL, vsL, vqL, Jmb222_3, Jmr222_3, f1, f5]
      refine ⟨rfl, u, by simp only [vmL, Nat.reduceEqDiff, reduceCtorEq, ↓reduceIte, vpL, vsL, vqL, f0], ?_, cg, iu⟩
      rw [List.take_length] at ou
      exact ou
    · have hlt : k < q.length := by omega
      have hc := hq _ (List.getElem_mem hlt)
      have htk : q.take (k + 1) = q.take k ++ [q[k]] := by rw [List.take_add_one, List.getElem?_eq_getElem hlt]; rfl
      have ix : ∀ h, oIdxStr (.str q) (.int .i64 (k : Int)) h = .ok (.int .u8 ((q[k] : Nat) : Int)) h := fun h => oIdxStr_ok (List.getElem?_eq_getElem hlt)
      generalize q[k] = c at hc htk ix
      obtain ⟨u', g', e', e'', o', c', n'⟩ := app1_ok (bt := 1) (new := [.int .u8 (c : Int)]) ou rfl (by omega)
      have iu' : ∀ j, idOf u' = some j → g.next.nat ≤ j.nat := fun j hj => by rw [e''] at hj; cases hj; rw [Pos.nat_succ]; omega
      have dd : ∀ z : Int, (z = 34 ∨ z = 92 ∨ z = 8 ∨ z = 9 ∨ z = 10 ∨ z = 12 ∨ z = 13) → decide ((c : Int) = z) = false := fun z hz => decide_eq_false (by have := hc.1; have := hc.2.2; omega)
      have d32 : decide ((c : Int) < 32) = false := decide_eq_false (by have := hc.1; omega)
      simp (disch := omega) only [vmL, Nat.reduceEqDiff, reduceCtorEq, ↓reduceIte, vpL, vsL, vqL, Jmb222_3, Jmr222_3, Jmr222_5, Jmr222_7, Jmr222_9, Jmr222_11, Jmr222_13, Jmr222_15, Jmr222_17, Jmr222_19, Jmr222_6, Jmr222_4, f0, f1, f5, ix, dd 34 (by simp), dd 92 (by simp), dd 8 (by simp), dd 9 (by simp), dd 10 (by simp), dd 12 (by simp), dd 13 (by simp), d32, bsv, e']
      refine ⟨m - 1, by omega, k + 1, u', by simp only [vmL, Nat.reduceEqDiff, reduceCtorEq, ↓reduceIte, vpL, vsL, vqL], by simp only [vmL, Nat.reduceEqDiff, reduceCtorEq, ↓reduceIte, vpL, vsL, vqL, f1], by simp only [vmL, Nat.reduceEqDiff, reduceCtorEq, ↓reduceIte, vpL, vsL, vqL]; rfl, by omega, ?_, cg.trans c' fun j hj q => ?_, fun j hj => by have := iu' j hj; omega⟩
      · rw [htk]
        have : cs ++ bys (34 :: (q.take k ++ [c])) = (cs ++ bys (34 :: q.take k)) ++ [V.int .u8 (c : Int)] := by simp [bys]
        rw [this]
        exact o'
      · have := iu j q; omega
  · rintro fr g ⟨u, f0, ou, cg, iu⟩
    have hn' := cg.next
    obtain ⟨u', g', e', e'', o', c', n'⟩ := app1_ok (bt := 1) (new := [.int .u8 34]) ou rfl (by omega)
    have iu' : ∀ j, idOf u' = some j → g.next.nat ≤ j.nat := fun j hj => by rw [e''] at hj; cases hj; rw [Pos.nat_succ]; omega
    simp (disch := omega) only [vmL, Nat.reduceEqDiff, reduceCtorEq, ↓reduceIte, vpL, vsL, vqL, Jmr222_22, f0, bsv, e']
    refine Tells.ret (by simp only [resK, vmL, Nat.reduceEqDiff, reduceCtorEq, ↓reduceIte, vpL, vsL, vqL, tupR]; rfl) ⟨?_, cg.trans c' fun j hj q => ?_, fun j hj => by have := iu' j hj; omega⟩
    · have : cs ++ bys (34 :: (q ++ [34])) = (cs ++ bys (34 :: q)) ++ [V.int .u8 34] := by simp [bys]
      rw [this, show n + q.length + 2 = n + 1 + q.length + 1 by omega]
      exact o'
    · have := iu j q; omega
  · intro fr g q; exact q.elim
end
end Go.Proofs.Jm
