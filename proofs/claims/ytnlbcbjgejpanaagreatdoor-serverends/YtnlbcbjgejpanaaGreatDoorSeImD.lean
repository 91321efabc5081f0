/- Part of the value machine, or of a walk by it: lemmas that the claim's last text uses. No conditions. -/
import Derived.Test.YtnlbcbjgejpanaaGreatDoorSeVmO
import Derived.Test.YtnlbcbjgejpanaaGreatDoorSeImC
set_option linter.unusedVariables false
set_option linter.unusedSimpArgs false
set_option linter.unnecessarySimpa false
noncomputable section
namespace Go.Vm
variable {h h' : Hp}
theorem oBuildSlice_s1 (t : TypeId) (a : List Nat) : oBuildSlice t [.str []] 1 [(0, 1, .str a)] h = .ok (.slice h.next 0 1 (.kn 1)) (h.new (.cells (.rw t true) [.str a])) := (rfl)
theorem oBuildSlice_s2 (t : TypeId) (a b : List Nat) : oBuildSlice t [.str [], .str []] 2 [(0, 1, .str a), (1, 1, .str b)] h = .ok (.slice h.next 0 2 (.kn 2)) (h.new (.cells (.rw t true) [.str a, .str b])) := (rfl)
theorem Sl.madeN {el : TypeId} {h : Hp} (l : List V) {n : Nat} (hn : l.length = n) : Sl (h.next.nat + 1) (h.new (.cells (.rw el true) l)) 1 (.slice h.next 0 n (.kn n)) n l := ⟨by omega, .inr ⟨h.next, 0, _, .rw el true, l, rfl, by omega, by rw [new_self]; rfl, fun k _ => by rw [Nat.zero_add]⟩⟩
theorem capOk_made {i : Pos} {n : Nat} : capOk 1 (.slice i 0 n (.kn n)) := fun _ _ _ _ e => by cases e; exact Nat.le_refl _
end Go.Vm
namespace Go.Proofs.Im
open Go Go.Proofs Go.Vm Go.Ln
set_option linter.unusedVariables false
set_option maxRecDepth 100000
set_option linter.unusedSimpArgs false
def ansW (n : Nat) (v : V) : V := if n = 0 then v else ansV 2 [119, 111, 114, 100, 115] false false
theorem say1_ok {b : Nat} {h : Hp} {i : Pos} {t el : TypeId} {L : List V} {s : List Nat} (d : Bd b h i 5 t L s) (l : List (List Nat)) {n : Nat} (hn : l.length = n) (hl : n ≤ 100)
    (ht : sizeL l ≤ 100000000) (hb : ∀ t ∈ l, ∀ c ∈ t, c < 256) (hj : n ≤ 1 ∨ joinM [32] l ≠ []) (hs : s.length + (joinM [32] l).length + 2 ≤ 1000000000) :
    ∃ r h' L', ImF57 [.ptr i 0, .slice h.next 0 n (.kn n)] (h.new (.cells (.rw el true) (l.map V.str))) = .ok r h' ∧ Bd b h' i 5 t L' (s ++ (joinM [32] l ++ [13, 10])) ∧ Stp (OfB i 5 L) h (OfB i 5 L') h' ∧ (∀ k, k ≠ 5 → k ≠ 6 → L'[k]? = L[k]?) ∧ L'.length = L.length := by
  subst hn
  have c1 : Ch (fun _ => False) h (h.new (.cells (.rw el true) (l.map V.str))) := Ch.new _ _ _
  obtain ⟨r, h', L', e, d', c', k', n'⟩ := say_ok (d.ch c1 fun _ _ _ q => q) (Sl.madeN (el := el) (h := h) (l.map V.str) (by simp)) capOk_made (by rw [new_next_nat]; omega) (by omega) ht hb hj hs
  exact ⟨r, h', L', e, d', ((Stp.refl (OfB i 5 L) h).step c1 fun _ q => q.elim).trans c', k', n'⟩
theorem noop_ok {P : Pos → Prop} {b : Nat} {h : Hp} {i : Pos} {t : TypeId} {L : List V} {s : List Nat} {c vw : V} {w : Wds} (d : Bd b h i 5 t L s) (h3 : L[3]? = some vw) (tw : WS P h vw w) :
    ∃ r h', ImF19 [c, .ptr i 0] h = .ok r h' ∧ r = ansW w.len (ansV 0 [] false false) ∧ Ch (fun _ => False) h h' := by
  obtain ⟨h1, hh1⟩ : ∃ h1, h1 = h.new (.cells (.rw tA true) [.int .i64 0, .str [], .bool false, .bool false, .bool false]) := ⟨_, rfl⟩
  have c1 : Ch (fun _ => False) h h1 := by rw [hh1]; exact Ch.new _ _ _
  have g1 : h1.get h.next = some (.cells (.rw tA true) [.int .i64 0, .str [], .bool false, .bool false, .bool false]) := by rw [hh1]; exact new_self _ _
  have n1 : h1.next.nat = h.next.nat + 1 := by rw [hh1, new_next_nat]
  have L3 : oLoad1 (.ptr i 3) h1 = .ok vw h1 := by rw [ld_get (d.ch c1 fun _ _ _ q => q).get]; simp only [h3]
  rw [ImF19_eq]
  show Tells Tryz.prog _ (fun r h' => r = ansW w.len (ansV 0 [] false false) ∧ Ch (fun _ => False) h h') _
  have fin : ∀ {h2 : Hp}, Ch (fun _ => False) h h2 → ∀ o, Ch (fun _ => False) h (h2.put h.next o) := fun c2 o => c2.trans (Ch.put (S := fun j => j = h.next) _ _ rfl) fun j hj q => by rw [q] at hj; omega
  by_cases hw : w.len = 0
  · simp (disch := omega) only [vmL, Nat.reduceEqDiff, reduceCtorEq, ↓reduceIte, vpL, vsL, vqL, Imd19, Imr19_0, Imr19_1, Imr19_3, oNew_an, ← hh1, L3, WS.len tw, hw, oBuild_an0, stAn g1]
    refine Tells.ret (by simp only [resK, vmL, Nat.reduceEqDiff, reduceCtorEq, ↓reduceIte, vpL, vsL, vqL, dLoadAn, ldAn (put_self _ _ _), tupR]; rfl) ⟨?_, fin c1 _⟩
    unfold ansW; rw [if_pos rfl]
  · obtain ⟨h2, e2, c2⟩ := wrong_ok h1
    have g2 := (c2.get h.next (by omega) fun q => q).trans g1
    simp (disch := omega) only [vmL, Nat.reduceEqDiff, reduceCtorEq, ↓reduceIte, vpL, vsL, vqL, Imd19, Imr19_0, Imr19_1, Imr19_2, oNew_an, ← hh1, L3, WS.len tw, e2, stAn g2]
    refine Tells.ret (by simp only [resK, vmL, Nat.reduceEqDiff, reduceCtorEq, ↓reduceIte, vpL, vsL, vqL, dLoadAn, ldAn (put_self _ _ _), tupR]; rfl) ⟨?_, fin (c1.trans c2 fun _ _ q => q) _⟩
    unfold ansW; rw [if_neg hw]
def toldW (n : Nat) (t : List Nat) : List Nat := if n = 0 then t ++ [13, 10] else []
theorem cap_ok {P : Pos → Prop} {b : Nat} {h : Hp} {i : Pos} {t : TypeId} {L : List V} {s : List Nat} {c vw : V} {w : Wds} (d : Bd b h i 5 t L s) (h3 : L[3]? = some vw) (tw : WS P h vw w) (hs : s.length ≤ 100000000) :
    ∃ r h' L', ImF18 [c, .ptr i 0] h = .ok r h' ∧ r = ansW w.len (ansV 0 [] false false) ∧ Bd b h' i 5 t L' (s ++ toldW w.len [42, 32, 67, 65, 80, 65, 66, 73, 76, 73, 84, 89, 32, 73, 77, 65, 80, 52, 114, 101, 118, 49, 32, 76, 73, 84, 69, 82, 65, 76, 43, 32, 85, 73, 68, 80, 76, 85, 83, 32, 77, 79, 86, 69, 32, 67, 79, 78, 68, 83, 84, 79, 82, 69]) ∧ Stp (OfB i 5 L) h (OfB i 5 L') h' ∧ (∀ k, k ≠ 5 → k ≠ 6 → L'[k]? = L[k]?) ∧ L'.length = L.length := by
  obtain ⟨h1, hh1⟩ : ∃ h1, h1 = h.new (.cells (.rw tA true) [.int .i64 0, .str [], .bool false, .bool false, .bool false]) := ⟨_, rfl⟩
  have c1 : Ch (fun _ => False) h h1 := by rw [hh1]; exact Ch.new _ _ _
  have g1 : h1.get h.next = some (.cells (.rw tA true) [.int .i64 0, .str [], .bool false, .bool false, .bool false]) := by rw [hh1]; exact new_self _ _
  have n1 : h1.next.nat = h.next.nat + 1 := by rw [hh1, new_next_nat]
  have d1 := d.ch c1 fun _ _ _ q => q
  have L3 : oLoad1 (.ptr i 3) h1 = .ok vw h1 := by rw [ld_get d1.get]; simp only [h3]
  have no : ∀ {l : List V}, OfB i 5 L h.next → False := fun o => by have := (o.from d _).2; omega
  have fin : ∀ {h2 : Hp} {l : List V}, Stp (OfB i 5 L) h (OfB i 5 l) h2 → ∀ o, Stp (OfB i 5 L) h (OfB i 5 l) (h2.put h.next o) := fun c2 o => ⟨c2.ch.trans (Ch.put (S := fun j => j = h.next) _ _ rfl) fun j hj q => by rw [q] at hj; omega, c2.sub⟩
  have c1' : Stp (OfB i 5 L) h (OfB i 5 L) h1 := (Stp.refl _ _).step c1 fun _ q => q.elim
  rw [ImF18_eq]
  suffices hT : Tells Tryz.prog [.cell 4 tA] (fun r h' => ∃ L', r = ansW w.len (ansV 0 [] false false) ∧ Bd b h' i 5 t L' (s ++ toldW w.len [42, 32, 67, 65, 80, 65, 66, 73, 76, 73, 84, 89, 32, 73, 77, 65, 80, 52, 114, 101, 118, 49, 32, 76, 73, 84, 69, 82, 65, 76, 43, 32, 85, 73, 68, 80, 76, 85, 83, 32, 77, 79, 86, 69, 32, 67, 79, 78, 68, 83, 84, 79, 82, 69]) ∧ Stp (OfB i 5 L) h (OfB i 5 L') h' ∧ (∀ k, k ≠ 5 → k ≠ 6 → L'[k]? = L[k]?) ∧ L'.length = L.length) (Imd18 (T.set (some (.ptr i 0)) (Pos.of 1) T.nil) h) by
    obtain ⟨r, h', e, L', q⟩ := hT
    exact ⟨r, h', L', e, q⟩
  by_cases hw : w.len = 0
  · obtain ⟨r2, h2, L2, e2, d2, c2, k2, n2⟩ := say1_ok (el := 9) d1 [[42, 32, 67, 65, 80, 65, 66, 73, 76, 73, 84, 89, 32, 73, 77, 65, 80, 52, 114, 101, 118, 49, 32, 76, 73, 84, 69, 82, 65, 76, 43, 32, 85, 73, 68, 80, 76, 85, 83, 32, 77, 79, 86, 69, 32, 67, 79, 78, 68, 83, 84, 79, 82, 69]] (n := 1) rfl (by omega) (by simp [sizeL]) (by simp) (.inl (Nat.le_refl _)) (by simp [joinM]; omega)
    have g2 := (c2.ch.get h.next (by omega) fun o => no (l := L) o).trans g1
    simp only [List.map_cons, List.map_nil] at e2
    simp (disch := omega) only [vmL, Nat.reduceEqDiff, reduceCtorEq, ↓reduceIte, vpL, vsL, vqL, Imd18, Imr18_0, Imr18_1, Imr18_3, Imr18_4, oNew_an, ← hh1, L3, WS.len tw, hw, oBuildSlice_s1, e2, oBuild_an0, stAn g2]
    refine Tells.ret (by simp only [resK, vmL, Nat.reduceEqDiff, reduceCtorEq, ↓reduceIte, vpL, vsL, vqL, dLoadAn, ldAn (put_self _ _ _), tupR]; rfl) ⟨L2, ?_, ?_, fin (c1'.trans c2) _, k2, n2⟩
    · unfold ansW; rw [if_pos rfl]
    · have d3 := d2.chO (Ch.put (S := fun j => j = h.next) h2 (some (.cells (.rw tA true) (ansL 0 [] false false))) rfl) fun j o e => by
        subst e
        rcases c2.sub _ o with o | o
        · exact no (l := L) o
        · omega
      unfold toldW; rw [if_pos rfl]
      simpa [joinM] using d3
  · obtain ⟨h2, e2, c2⟩ := wrong_ok h1
    have g2 := (c2.get h.next (by omega) fun q => q).trans g1
    simp (disch := omega) only [vmL, Nat.reduceEqDiff, reduceCtorEq, ↓reduceIte, vpL, vsL, vqL, Imd18, Imr18_0, Imr18_1, Imr18_2, oNew_an, ← hh1, L3, WS.len tw, e2, stAn g2]
    refine Tells.ret (by simp only [resK, vmL, Nat.reduceEqDiff, reduceCtorEq, ↓reduceIte, vpL, vsL, vqL, dLoadAn, ldAn (put_self _ _ _), tupR]; rfl) ⟨L, ?_, ?_, fin (c1'.step c2 fun _ q => q.elim) _, fun _ _ _ => rfl, rfl⟩
    · unfold ansW; rw [if_neg hw]
    · have d3 := (d1.ch c2 fun _ _ _ q => q).chO (Ch.put (S := fun j => j = h.next) h2 (some (.cells (.rw tA true) (ansL 2 [119, 111, 114, 100, 115] false false))) rfl) fun j o e => by
        subst e
        exact no (l := L) o
      unfold toldW; rw [if_neg hw]
      simpa using d3
theorem bye_ok {P : Pos → Prop} {b : Nat} {h : Hp} {i : Pos} {t : TypeId} {L : List V} {s : List Nat} {c vw : V} {w : Wds} (d : Bd b h i 5 t L s) (h3 : L[3]? = some vw) (tw : WS P h vw w) (hs : s.length ≤ 100000000) :
    ∃ r h' L', ImF20 [c, .ptr i 0] h = .ok r h' ∧ r = ansW w.len (ansV 0 [] true true) ∧ Bd b h' i 5 t L' (s ++ toldW w.len [42, 32, 66, 89, 69]) ∧ Stp (OfB i 5 L) h (OfB i 5 L') h' ∧ (∀ k, k ≠ 5 → k ≠ 6 → L'[k]? = L[k]?) ∧ L'.length = L.length := by
  obtain ⟨h1, hh1⟩ : ∃ h1, h1 = h.new (.cells (.rw tA true) [.int .i64 0, .str [], .bool false, .bool false, .bool false]) := ⟨_, rfl⟩
  have c1 : Ch (fun _ => False) h h1 := by rw [hh1]; exact Ch.new _ _ _
  have g1 : h1.get h.next = some (.cells (.rw tA true) [.int .i64 0, .str [], .bool false, .bool false, .bool false]) := by rw [hh1]; exact new_self _ _
  have n1 : h1.next.nat = h.next.nat + 1 := by rw [hh1, new_next_nat]
  have d1 := d.ch c1 fun _ _ _ q => q
  have L3 : oLoad1 (.ptr i 3) h1 = .ok vw h1 := by rw [ld_get d1.get]; simp only [h3]
  have no : ∀ {l : List V}, OfB i 5 L h.next → False := fun o => by have := (o.from d _).2; omega
  have fin : ∀ {h2 : Hp} {l : List V}, Stp (OfB i 5 L) h (OfB i 5 l) h2 → ∀ o, Stp (OfB i 5 L) h (OfB i 5 l) (h2.put h.next o) := fun c2 o => ⟨c2.ch.trans (Ch.put (S := fun j => j = h.next) _ _ rfl) fun j hj q => by rw [q] at hj; omega, c2.sub⟩
  have c1' : Stp (OfB i 5 L) h (OfB i 5 L) h1 := (Stp.refl _ _).step c1 fun _ q => q.elim
  rw [ImF20_eq]
  suffices hT : Tells Tryz.prog [.cell 4 tA] (fun r h' => ∃ L', r = ansW w.len (ansV 0 [] true true) ∧ Bd b h' i 5 t L' (s ++ toldW w.len [42, 32, 66, 89, 69]) ∧ Stp (OfB i 5 L) h (OfB i 5 L') h' ∧ (∀ k, k ≠ 5 → k ≠ 6 → L'[k]? = L[k]?) ∧ L'.length = L.length) (Imd20 (T.set (some (.ptr i 0)) (Pos.of 1) T.nil) h) by
    obtain ⟨r, h', e, L', q⟩ := hT
    exact ⟨r, h', L', e, q⟩
  by_cases hw : w.len = 0
  · obtain ⟨r2, h2, L2, e2, d2, c2, k2, n2⟩ := say1_ok (el := 9) d1 [[42, 32, 66, 89, 69]] (n := 1) rfl (by omega) (by simp [sizeL]) (by simp) (.inl (Nat.le_refl _)) (by simp [joinM]; omega)
    have g2 := (c2.ch.get h.next (by omega) fun o => no (l := L) o).trans g1
    simp only [List.map_cons, List.map_nil] at e2
    simp (disch := omega) only [vmL, Nat.reduceEqDiff, reduceCtorEq, ↓reduceIte, vpL, vsL, vqL, Imd20, Imr20_0, Imr20_1, Imr20_3, Imr20_4, oNew_an, ← hh1, L3, WS.len tw, hw, oBuildSlice_s1, e2, oBuild_anB, stAn g2]
    refine Tells.ret (by simp only [resK, vmL, Nat.reduceEqDiff, reduceCtorEq, ↓reduceIte, vpL, vsL, vqL, dLoadAn, ldAn (put_self _ _ _), tupR]; rfl) ⟨L2, ?_, ?_, fin (c1'.trans c2) _, k2, n2⟩
    · unfold ansW; rw [if_pos rfl]
    · have d3 := d2.chO (Ch.put (S := fun j => j = h.next) h2 (some (.cells (.rw tA true) (ansL 0 [] true true))) rfl) fun j o e => by
        subst e
        rcases c2.sub _ o with o | o
        · exact no (l := L) o
        · omega
      unfold toldW; rw [if_pos rfl]
      simpa [joinM] using d3
  · obtain ⟨h2, e2, c2⟩ := wrong_ok h1
    have g2 := (c2.get h.next (by omega) fun q => q).trans g1
    simp (disch := omega) only [vmL, Nat.reduceEqDiff, reduceCtorEq, ↓reduceIte, vpL, vsL, vqL, Imd20, Imr20_0, Imr20_1, Imr20_2, oNew_an, ← hh1, L3, WS.len tw, e2, stAn g2]
    refine Tells.ret (by simp only [resK, vmL, Nat.reduceEqDiff, reduceCtorEq, ↓reduceIte, vpL, vsL, vqL, dLoadAn, ldAn (put_self _ _ _), tupR]; rfl) ⟨L, ?_, ?_, fin (c1'.step c2 fun _ q => q.elim) _, fun _ _ _ => rfl, rfl⟩
    · unfold ansW; rw [if_neg hw]
    · have d3 := (d1.ch c2 fun _ _ _ q => q).chO (Ch.put (S := fun j => j = h.next) h2 (some (.cells (.rw tA true) (ansL 2 [119, 111, 114, 100, 115] false false))) rfl) fun j o e => by
        subst e
        exact no (l := L) o
      unfold toldW; rw [if_neg hw]
      simpa using d3
end Go.Proofs.Im

noncomputable section
namespace Go.Ln
open Go Go.Vm Go.Proofs.Im
def cmdL : List (List Nat × Nat × Nat × Nat × Bool) := [
  ([99, 97, 112, 97, 98, 105, 108, 105, 116, 121], tF18, 0, 0, false),
  ([110, 111, 111, 112], tF19, 1, 0, false),
  ([108, 111, 103, 111, 117, 116], tF20, 2, 0, false),
  ([108, 111, 103, 105, 110], tF21, 3, 1, false),
  ([115, 101, 108, 101, 99, 116], tF22, 4, 2, false),
  ([101, 120, 97, 109, 105, 110, 101], tF23, 4, 2, false),
  ([99, 114, 101, 97, 116, 101], tF24, 4, 2, false),
  ([100, 101, 108, 101, 116, 101], tF25, 4, 2, false),
  ([114, 101, 110, 97, 109, 101], tF26, 4, 2, false),
  ([108, 105, 115, 116], tF27, 4, 2, false),
  ([115, 116, 97, 116, 117, 115], tF28, 4, 2, false),
  ([97, 112, 112, 101, 110, 100], tF29, 4, 2, false),
  ([99, 104, 101, 99, 107], tF19, 1, 3, false),
  ([99, 108, 111, 115, 101], tF30, 4, 3, false),
  ([101, 120, 112, 117, 110, 103, 101], tF31, 4, 3, true),
  ([115, 101, 97, 114, 99, 104], tF32, 4, 3, true),
  ([102, 101, 116, 99, 104], tF33, 4, 3, true),
  ([115, 116, 111, 114, 101], tF34, 4, 3, true),
  ([99, 111, 112, 121], tF35, 4, 3, true),
  ([109, 111, 118, 101], tF36, 4, 3, true)]
def cmdV (pc : Pos) (c : Nat × Nat × Nat × Bool) : V := .agg (.cons (.func (.func c.1) (.cons (.ptr pc 0) .nil) .nil) (.cons (.int .i64 (c.2.2.1 : Int)) (.cons (.bool c.2.2.2) .nil)))
def cmdM (pc : Pos) : List (V × V) := cmdL.map fun c => (V.str c.1, cmdV pc c.2)
def findIn (name : List Nat) : List (List Nat × Nat × Nat × Nat × Bool) → Option (Nat × Nat × Nat × Bool)
  | [] => none
  | c :: l => if name = c.1 then some c.2 else findIn name l
theorem findM_cmd (pc : Pos) (name : List Nat) : ∀ l : List (List Nat × Nat × Nat × Nat × Bool), findM (.str name) (l.map fun c => (V.str c.1, cmdV pc c.2)) = some ((findIn name l).map (cmdV pc))
  | [] => rfl
  | c :: l => by
    have hk : keyEq (.str name) (.str c.1) = some (decide (name = c.1)) := by show some (strEq name c.1) = _; rw [strEq_dec]
    simp only [List.map_cons, findM, hk, findIn]
    by_cases h : name = c.1
    · simp [h]
    · simp [h, findM_cmd pc name l]
theorem findIn_mem {name : List Nat} {x : Nat × Nat × Nat × Bool} : ∀ {l : List (List Nat × Nat × Nat × Nat × Bool)}, findIn name l = some x → ∃ c ∈ l, c.2 = x
  | [], e => by cases e
  | c :: l, e => by
    unfold findIn at e
    split at e
    · cases e; exact ⟨c, by simp, rfl⟩
    · obtain ⟨d, hd, hx⟩ := findIn_mem e; exact ⟨d, List.mem_cons_of_mem _ hd, hx⟩
theorem cmd_kind : ∀ c ∈ cmdL, c.2.2.2.1 = 2 ∨ c.2.2.2.1 = 3 ∨ (c.2 = (tF18, 0, 0, false)) ∨ (c.2 = (tF19, 1, 0, false)) ∨ (c.2 = (tF20, 2, 0, false)) ∨ (c.2 = (tF21, 3, 1, false)) := by decide
theorem look_cmd {h : Hp} {im pc : Pos} (hg : h.get im = some (.map (cmdM pc))) (z : V) (name : List Nat) :
    oLookK .string true z (.map im) (.str name) h = .ok (.tuple (.cons (((findIn name cmdL).map (cmdV pc)).getD z) (.cons (.bool (findIn name cmdL).isSome) .nil))) h := by
  show (match h.get im with | some (.map es) => lookE true z (.str name) es h | _ => .bad) = _
  rw [hg]
  simp only [lookE, cmdM, findM_cmd]
  cases findIn name cmdL <;> rfl
def comM (inn uid : Bool) (name : List Nat) (n : Nat) : Option (V × List Nat) :=
  match findIn name cmdL with
  | none => some (ansV 2 [99, 111, 109, 109, 97, 110, 100] false false, [])
  | some (g, k, st, u) => if uid && !u then some (ansV 2 [99, 111, 109, 109, 97, 110, 100] false false, [])
    else if st = 3 ∨ (st = 2 ∧ inn = false) ∨ (st = 1 ∧ inn = true) then some (ansV 1 [115, 116, 97, 116, 101] false false, [])
    else if k = 0 ∧ st = 0 then some (ansW n (ansV 0 [] false false), toldW n [42, 32, 67, 65, 80, 65, 66, 73, 76, 73, 84, 89, 32, 73, 77, 65, 80, 52, 114, 101, 118, 49, 32, 76, 73, 84, 69, 82, 65, 76, 43, 32, 85, 73, 68, 80, 76, 85, 83, 32, 77, 79, 86, 69, 32, 67, 79, 78, 68, 83, 84, 79, 82, 69])
    else if k = 1 ∧ st = 0 then some (ansW n (ansV 0 [] false false), [])
    else if k = 2 ∧ st = 0 then some (ansW n (ansV 0 [] true true), toldW n [42, 32, 66, 89, 69])
    else none
def uidN : List Nat := [117, 105, 100]
def uidM (name : List Nat) (w : Wds) : Option (Bool × List Nat × Wds) :=
  if name = uidN then (match w.get? 0 with | some x => if x.kind = 1 then some (true, foldM x.text, w.drop 1) else none | none => none) else some (false, name, w)
def runM (inn : Bool) (name : List Nat) (w : Wds) : Option (V × List Nat) :=
  match uidM name w with
  | none => some (ansV 2 [99, 111, 109, 109, 97, 110, 100] false false, [])
  | some (uid, nm, r) => comM inn uid nm r.len
end Go.Ln
