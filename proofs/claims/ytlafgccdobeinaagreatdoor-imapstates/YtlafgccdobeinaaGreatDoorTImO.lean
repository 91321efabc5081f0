/- Part of the value machine, or of a walk by it: lemmas that the claim's last text uses. No conditions. -/
import Derived.Test.YtlafgccdobeinaaGreatDoorTVmO
import Derived.Test.YtlafgccdobeinaaGreatDoorTImG
set_option linter.unusedVariables false
set_option linter.unusedSimpArgs false
set_option linter.unnecessarySimpa false
noncomputable section
namespace Go.Ln
open Go Go.Vm Go.Proofs.Im
set_option maxRecDepth 100000
def textsW : Wds → List (List Nat)
  | .nil => []
  | .cons _ t _ r => t :: textsW r
def listW : Wds → Bool
  | .nil => false
  | .cons k _ _ r => decide (k = 3) || listW r
theorem drop_zero : ∀ w : Wds, w.drop 0 = w
  | .nil => rfl
  | .cons _ _ _ _ => rfl
theorem textsW_len : ∀ w : Wds, (textsW w).length = w.len
  | .nil => rfl
  | .cons _ _ _ r => by simp [textsW, Wds.len, textsW_len r]
theorem drop_get : ∀ {w : Wds} {k : Nat} {x : Wd}, w.get? k = some x → w.drop k = .cons x.kind x.text x.kids (w.drop (k + 1))
  | .nil, _, _, e => by cases e
  | .cons k t ks r, 0, x, e => by cases e; simp [Wds.drop]
  | .cons k t ks r, n + 1, x, e => by simp only [Wds.drop]; exact drop_get (w := r) e
theorem drop_len : ∀ {w : Wds} {k : Nat}, w.len ≤ k → w.drop k = .nil
  | .nil, 0, _ => rfl
  | .nil, k + 1, _ => rfl
  | .cons _ _ _ _, 0, h => by simp [Wds.len] at h
  | .cons _ _ _ r, k + 1, h => by simp only [Wds.drop]; exact drop_len (by simp [Wds.len] at h; omega)
end Go.Ln
namespace Go.Proofs.Im
open Go Go.Proofs Go.Vm Go.Ln
set_option linter.unusedVariables false
set_option maxRecDepth 100000
set_option linter.unusedSimpArgs false
theorem oNew_word (t : TypeId) (h : Hp) : oNew t [.int .i64 0, .str [], .nils] h = .ok (.ptr h.next 0) (h.new (.cells (.rw t true) [.int .i64 0, .str [], .nils])) := (rfl)
theorem WS.atN {P : Pos → Prop} {h : Hp} {v : V} {ws : Wds} (t : WS P h v ws) {k : Nat} {w : Wd} (e : ws.get? k = some w) :
    ∃ j q vk, (∀ h', oIdxS 3 v (.int .i64 (k : Int)) h' = .ok (.ptr j q) h') ∧ oLoadN 3 (.ptr j q) h = .ok (.agg (.cons (.int .i64 w.kind) (.cons (.str w.text) (.cons vk .nil)))) h := by
  obtain ⟨cs, o, -, i, x⟩ := t
  have hk := Wds.get?_lt e
  obtain ⟨c0, c1, vk, c2, w1⟩ := WAt.get x e
  obtain ⟨j, q, e1, -, -, e2⟩ := o.atN hk
  refine ⟨j, q, vk, e1, ?_⟩
  rw [e2 h rfl]
  obtain ⟨l0, x0⟩ := List.getElem?_eq_some_iff.1 c0
  obtain ⟨l1, x1⟩ := List.getElem?_eq_some_iff.1 c1
  obtain ⟨l2, x2⟩ := List.getElem?_eq_some_iff.1 c2
  rw [List.drop_eq_getElem_cons l0, List.drop_eq_getElem_cons l1, List.drop_eq_getElem_cons l2, x0, x1, x2]
  rfl
def NamesQ (w : Wds) (n : Nat) (h : Hp) (r : V) (h' : Hp) : Prop :=
  Ch (fun _ => False) h h' ∧ ((listW w = true ∧ r = .tuple (.cons .nils (.cons (.bool false) .nil))) ∨
    (listW w = false ∧ ∃ v, r = .tuple (.cons v (.cons (.bool (decide (w.len = n))) .nil)) ∧ Ow 0 h' 9 1 v w.len ((textsW w).map V.str) ∧ ∀ j, idOf v = some j → h.next.nat ≤ j.nat))
theorem names_ok {P : Pos → Prop} {b : Nat} {h : Hp} {i : Pos} {t : TypeId} {L : List V} {s : List Nat} {vw : V} {w : Wds} {n : Nat} (d : Bd b h i 5 t L s) (h3 : L[3]? = some vw) (tw : WS P h vw w) (hl : w.len ≤ 1000000) :
    ∃ r h', ImF58 [.ptr i 0, .int .i64 (n : Int)] h = .ok r h' ∧ NamesQ w n h r h' := by
  rw [ImF58_eq]
  show Tells Tryz.prog _ (NamesQ w n h) _
  have R3 : oLoad1 (.ptr i 3) h = .ok vw h := ld_at d.get h3
  simp (disch := omega) only [vmL, reduceCtorEq, ↓reduceIte, vsL, Imd58, Imr58_0, Imr58_1, Imr58_2, R3, WS.len tw]
  refine Oc.then (loop_rule (n := w.len) (fun m fr g => ∃ (k : Nat) (vo : V), fr.get (Pos.of 1) = some (.int .i64 (n : Int)) ∧ fr.get (Pos.of 6) = some vo ∧ fr.get (Pos.of 12) = some vw ∧ fr.get (Pos.of 13) = some (.int .i64 (w.len : Int)) ∧ fr.get (Pos.of 14) = some (.int .i64 (k : Int)) ∧
      k + m = w.len ∧ Ow 0 g 9 1 vo k (((textsW w).take k).map V.str) ∧ (∀ j, idOf vo = some j → h.next.nat ≤ j.nat) ∧ listW w = listW (w.drop k) ∧ textsW w = (textsW w).take k ++ textsW (w.drop k) ∧ Ch (fun _ => False) h g)
    (A := fun fr g => ∃ vo, fr.get (Pos.of 1) = some (.int .i64 (n : Int)) ∧ fr.get (Pos.of 6) = some vo ∧ listW w = false ∧ Ow 0 g 9 1 vo w.len ((textsW w).map V.str) ∧ (∀ j, idOf vo = some j → h.next.nat ≤ j.nat) ∧ Ch (fun _ => False) h g)
    (B := fun fr g => fr.get (Pos.of 4) = some .nils ∧ fr.get (Pos.of 5) = some (.bool false) ∧ listW w = true ∧ Ch (fun _ => False) h g) (by rw [lf_eq]; omega) ?_ ?_) ?_ ?_
  · exact ⟨0, .nils, by simp only [vmL, Nat.reduceEqDiff, ↓reduceIte], by simp only [vmL, Nat.reduceEqDiff, ↓reduceIte], by simp only [vmL, Nat.reduceEqDiff, ↓reduceIte], by simp only [vmL, Nat.reduceEqDiff, ↓reduceIte], by simp only [vmL, ↓reduceIte]; rfl, by omega, by simpa using Ow.nil 0 h 9 1, fun j q => (by cases q), by rw [drop_zero], by rw [drop_zero]; rfl, Ch.refl _ _⟩
  · rintro m fr g ⟨k, vo, f1, f6, f12, f13, f14, hk, ow, hid, hL, hT, chg⟩
    by_cases hz : m = 0
    · have hkk : k = w.len := by omega
      subst hkk
      rw [drop_len (Nat.le_refl _)] at hL
      rw [← textsW_len w, List.take_length, textsW_len w] at ow
      simp (disch := omega) only [vmL, ↓reduceIte, Imb58_3, Imr58_3, f13, f14]
      exact ⟨rfl, vo, by simp only [vmL, Nat.reduceEqDiff, ↓reduceIte, f1], by simp only [vmL, Nat.reduceEqDiff, ↓reduceIte, f6], hL, ow, hid, chg⟩
    · have hlt : k < w.len := by omega
      obtain ⟨x, hx⟩ := Wds.get?_ge hlt
      have twg : WS P g vw w := tw.ch chg fun j _ q => ⟨q, fun q => q⟩
      obtain ⟨j, q, vk, i1, i2⟩ := WS.atN twg hx
      have hd := drop_get hx
      obtain ⟨g2, hg2⟩ : ∃ g2, g2 = (g.new (.cells (.rw tWrd true) [.int .i64 0, .str [], .nils])).put g.next (some (.cells (.rw tWrd true) [.int .i64 x.kind, .str x.text, vk])) := ⟨_, rfl⟩
      have c2 : Ch (fun _ => False) g g2 := by rw [hg2]; exact fill_ch _ _ _
      have w2 : g2.get g.next = some (.cells (.rw tWrd true) [.int .i64 x.kind, .str x.text, vk]) := by rw [hg2]; exact put_self _ _ _
      have K0 : oLoad1 (.ptr g.next 0) g2 = .ok (.int .i64 x.kind) g2 := ld_at w2 rfl
      have K1 : oLoad1 (.ptr g.next 1) g2 = .ok (.str x.text) g2 := ld_at w2 rfl
      rw [hd] at hL hT
      simp only [listW] at hL
      simp only [textsW] at hT
      have htl : ((textsW w).take k).length = k := by rw [List.length_take, textsW_len]; omega
      have htk : (textsW w).take (k + 1) = (textsW w).take k ++ [x.text] := by
        have : (textsW w)[k]? = some x.text := by
          rw [hT, List.getElem?_append_right (by omega), htl, Nat.sub_self]; rfl
        rw [List.take_add_one, this]; rfl
      by_cases h3k : x.kind = 3
      · have K0' : oLoad1 (.ptr g.next 0) g2 = .ok (.int .i64 3) g2 := by rw [K0, h3k]
        simp (disch := omega) only [vmL, Nat.reduceEqDiff, ↓reduceIte, vsL, vqL, Imb58_3, Imr58_3, Imr58_4, Imr58_5, Imr58_6, f12, f13, f14, i1, i2, oNew_word, st3g (new_self _ _), ← hg2, K0']
        refine ⟨by simp only [vmL, Nat.reduceEqDiff, ↓reduceIte], by simp only [vmL, ↓reduceIte], by rw [hL, h3k]; rfl, chg.trans c2 fun _ _ q => q⟩
      · have o2 := ow.ch c2 fun _ _ q => q
        obtain ⟨v', g3, e3, rfl, o3, c3, n3⟩ := app1_ok (bt := 16) (new := [.str x.text]) o2 rfl (by omega)
        simp (disch := omega) only [vmL, Nat.reduceEqDiff, ↓reduceIte, vsL, vqL, Imb58_3, Imr58_3, Imr58_4, Imr58_5, Imr58_7, Imr58_8, f6, f12, f13, f14, i1, i2, oNew_word, st3g (new_self _ _), ← hg2, K0, K1, h3k, oBuildSlice_s1, e3]
        have c23 : Ch (fun _ => False) h g3 := by
          have ca := chg.trans c2 fun _ _ q => q
          exact ca.trans c3 fun j hj q => by have := hid j q; omega
        exact ⟨m - 1, by omega, k + 1, .slice g2.next.succ 0 (k + 1) (.un 1), by simp only [vmL, Nat.reduceEqDiff, ↓reduceIte, f1], by simp only [vmL, Nat.reduceEqDiff, ↓reduceIte], by simp only [vmL, Nat.reduceEqDiff, ↓reduceIte, f12], by simp only [vmL, Nat.reduceEqDiff, ↓reduceIte, f13], by simp only [vmL, ↓reduceIte]; rfl, by omega, by rw [htk, List.map_append]; exact o3,
          fun j q => by cases q; have := chg.next; have := c2.next; rw [Pos.nat_succ]; omega, by rw [hL, decide_eq_false h3k, Bool.false_or], by rw [htk]; rw [List.append_assoc]; exact hT, c23⟩
  · rintro fr g ⟨vo, f1, f6, hno, ow, hid, chg⟩
    have L0 : oLenK 2 vo g = .ok (.int .i64 (w.len : Int)) g := ow.sl.length
    have hd : decide ((w.len : Int) = (n : Int)) = decide (w.len = n) := decide_eq_decide.2 (by omega)
    simp (disch := omega) only [vmL, Imr58_9, f1, f6, L0, hd]
    exact Tells.ret (by simp only [resK, vmL, Nat.reduceEqDiff, ↓reduceIte, tupR]; rfl) ⟨chg, .inr ⟨hno, vo, rfl, ow, hid⟩⟩
  · rintro fr g ⟨f4, f5, hl, chg⟩
    exact Tells.ret (by simp only [resK, f4, f5, tupR]; rfl) ⟨chg, .inl ⟨hl, rfl⟩⟩
end Go.Proofs.Im

noncomputable section
namespace Go.Vm
variable {h : Hp}
theorem ldL {i : Pos} {wr : Wr} {l r : List V} {n : Nat} (hg : h.get i = some (.cells wr (l ++ r))) (hn : l.length = n) : oLoadN n (.ptr i 0) h = .ok (.agg (V.ofList l)) h := by
  show hCells h i (fun _ cs => match takeV n (dropV 0 cs) with | some l => R.ok (V.agg (V.ofList l)) h | none => .bad) = _
  rw [hCells_rowA (wr := wr) (all := l ++ r) (by rw [hg]; rfl)]
  rw [takeV_of (cs := l) (fun f hf => by rw [Nat.zero_add, List.getElem?_append_left (by omega)]) hn]
theorem overV_all : ∀ {l m : List V}, l.length = m.length → overV l m = some l
  | [], [], _ => rfl
  | [], _ :: _, h => by cases h
  | _ :: _, [], h => by cases h
  | a :: l, b :: m, h => by
    show Option.casesOn (motive := fun _ => Option (List V)) (overV l m) none (fun r => some (a :: r)) = _
    rw [overV_all (by simpa using h)]
theorem stL {i : Pos} {t : TypeId} {f : Bool} {l m : List V} {n : Nat} (hg : h.get i = some (.cells (.rw t f) m)) (hm : l.length = m.length) (hn : l.length = n) : oStore n (.ptr i 0) (.agg (V.ofList l)) h = .ok V.undef (h.put i (some (.cells (.rw t f) l))) := by
  have hc : V.cells (.agg (V.ofList l)) = l := V.list_ofList l
  rw [oStore_row hg rfl (by rw [hc, hn, Nat.beq_refl]), hc]
  show (match overV l m with | some cs' => R.ok V.undef (h.put i (some (.cells (.rw t f) cs'))) | none => .bad) = _
  rw [overV_all hm]
end Go.Vm
namespace Go.Proofs.Im
open Go Go.Proofs Go.Vm Go.Ln
set_option linter.unusedVariables false
set_option maxRecDepth 100000
set_option linter.unusedSimpArgs false
theorem dLoadCfg (x : V) (h : Hp) : dLoad Tryz.prog tCfg x h = oLoadN 9 x h := by kernel_rfl
theorem config_ok {h : Hp} {i : Pos} {wr : Wr} {l r : List V} (hg : h.get i = some (.cells wr (l ++ r))) (hl : l.length = 9) (hi : i.nat < h.next.nat) : ∃ h', ImF59 [.ptr i 0] h = .ok (.agg (V.ofList l)) h' ∧ Ch (fun _ => False) h h' := by
  obtain ⟨h1, hh1⟩ : ∃ h1, h1 = h.new (.cells (.rw tCfg true) [(.str []), (.str []), (.int .i64 0), (.int .i64 0), (.int .i64 0), (.int .i64 0), (.int .i64 0), (.int .i64 0), (.int .i64 0)]) := ⟨_, rfl⟩
  have c1 : Ch (fun _ => False) h h1 := by rw [hh1]; exact Ch.new _ _ _
  have g1 : h1.get h.next = some (.cells (.rw tCfg true) [(.str []), (.str []), (.int .i64 0), (.int .i64 0), (.int .i64 0), (.int .i64 0), (.int .i64 0), (.int .i64 0), (.int .i64 0)]) := by rw [hh1]; exact new_self _ _
  have L1 := ldL ((c1.get i hi fun q => q).trans hg) hl
  have S1 := stL (l := l) g1 hl hl
  have K1 : oLoadN 9 (.ptr h.next 0) (h1.put h.next (some (.cells (.rw tCfg true) l))) = .ok (.agg (V.ofList l)) (h1.put h.next (some (.cells (.rw tCfg true) l))) := ldL (r := []) (by rw [put_self, List.append_nil]) hl
  rw [ImF59_eq]
  simp (disch := omega) only [vmL, Nat.reduceEqDiff, reduceCtorEq, ↓reduceIte, vsL, Imd59, Imr59_0, Imr59_1, Imr59_3, oNew_eq, ← hh1, ptr_eql_nil, L1, S1]
  exact ⟨h1.put h.next (some (.cells (.rw tCfg true) l)), by simp only [outR, resK, vmL, Nat.reduceEqDiff, ↓reduceIte, dLoadCfg, K1, tupR], by rw [hh1]; exact fill_ch _ _ _⟩
end Go.Proofs.Im
