/- Part of the value machine, or of a walk by it: lemmas that the claim's last text uses. No conditions. -/
import Derived.Test.YtnlbcbjgejpanaaGreatDoorSeVmO
import Derived.Test.YtnlbcbjgejpanaaGreatDoorSeImA
set_option linter.unusedVariables false
set_option linter.unusedSimpArgs false
set_option linter.unnecessarySimpa false
noncomputable section
namespace Go.Proofs.Im
open Go Go.Proofs Go.Vm
set_option linter.unusedVariables false
set_option maxRecDepth 100000
set_option linter.unusedSimpArgs false
theorem fold_okT {s : List Nat} {h : Hp} (hl : s.length < 1000000000) (hs : ∀ c ∈ s, c < 256) : ∃ r h', ImF122 [.str s] h = .ok r h' ∧ r = .str (foldM s) ∧ Ch (fun _ => False) h h' := by
  rw [ImF122_eq]
  show Tells Tryz.prog _ (fun r h' => r = .str (foldM s) ∧ Ch (fun _ => False) h h') _
  simp (disch := omega) only [vmL, Nat.reduceEqDiff, reduceCtorEq, ↓reduceIte, vpL, vsL, vqL, Imd122, Imr122_0, Imr122_1, Imr122_2, oMakeSlice_0]
  refine Oc.then (loop_rule (n := s.length) (fun m fr g => ∃ k rest, fr.get (Pos.of 0) = some (.str s) ∧ fr.get (Pos.of 3) = some (.slice h.next 0 k (.kn s.length)) ∧ fr.get (Pos.of 10) = some (.int .i64 (s.length : Int)) ∧ fr.get (Pos.of 11) = some (.int .i64 (k : Int)) ∧
      k + m = s.length ∧ g.get h.next = some (.cells (.rw tB true) (bys (foldM (s.take k)) ++ rest)) ∧ rest.length = m ∧ Ch (fun _ => False) h g ∧ h.next.nat < g.next.nat)
    (A := fun fr g => fr.get (Pos.of 3) = some (.slice h.next 0 s.length (.kn s.length)) ∧ ∃ rest, g.get h.next = some (.cells (.rw tB true) (bys (foldM s) ++ rest)) ∧ Ch (fun _ => False) h g) (B := fun _ _ => False) (by rw [lf_eq]; omega) ?_ ?_) ?_ ?_
  · exact ⟨0, times s.length [V.int .u8 0], by simp only [vmL, Nat.reduceEqDiff, reduceCtorEq, ↓reduceIte, vpL, vsL, vqL], by simp only [vmL, Nat.reduceEqDiff, reduceCtorEq, ↓reduceIte, vpL, vsL, vqL], by simp only [vmL, Nat.reduceEqDiff, reduceCtorEq, ↓reduceIte, vpL, vsL, vqL], by simp only [vmL, Nat.reduceEqDiff, reduceCtorEq, ↓reduceIte, vpL, vsL, vqL]; rfl, by omega, by simp [foldM, bys, new_self], times_len _ _, Ch.new _ _ _, by rw [new_next_nat]; omega⟩
  · rintro m fr g ⟨k, rest, f0, f3, f10, f11, hk, hg, hr, chg, hp⟩
    by_cases hz : m = 0
    · subst hz
      have hks : k = s.length := by omega
      subst hks
      simp (disch := omega) only [vmL, Nat.reduceEqDiff, reduceCtorEq, ↓reduceIte, vpL, vsL, vqL, Imb122_3, Imr122_3, f10, f11]
      exact ⟨rfl, by simp only [vmL, Nat.reduceEqDiff, reduceCtorEq, ↓reduceIte, vpL, vsL, vqL, f3], rest, by rw [List.take_length] at hg; exact hg, chg⟩
    · have hlt : k < s.length := by omega
      obtain ⟨x, rest', rfl⟩ : ∃ x r, rest = x :: r := by
        cases rest with
        | nil => simp at hr; omega
        | cons x r => exact ⟨x, r, rfl⟩
      have hc := hs s[k] (List.getElem_mem _)
      have ix : ∀ h, oIdxStr (.str s) (.int .i64 (k : Int)) h = .ok (.int .u8 ((s[k] : Nat) : Int)) h := fun h => oIdxStr_ok (List.getElem?_eq_getElem hlt)
      generalize hcc : s[k] = c at hc ix
      have ht : foldM (s.take (k + 1)) = foldM (s.take k) ++ [lowC c] := by
        rw [List.take_add_one, List.getElem?_eq_getElem hlt, hcc]; simp [foldM]
      have hpl : (bys (foldM (s.take k))).length = k := by rw [bys_length]; simp [foldM]; omega
      have ap := fun y : V => app_kn (el := tB) (bt := 1) (y := y) hg hpl hlt hp
      have fin : ∀ g', g' = (g.new (.cells (.rw tB true) [V.int .u8 ((lowC c : Nat) : Int)])).put h.next (some (.cells (.rw tB true) (bys (foldM (s.take k)) ++ V.int .u8 ((lowC c : Nat) : Int) :: rest'))) →
          g'.get h.next = some (.cells (.rw tB true) (bys (foldM (s.take (k + 1))) ++ rest')) ∧ Ch (fun _ => False) h g' ∧ h.next.nat < g'.next.nat := by
        rintro g' rfl
        refine ⟨?_, ?_, by rw [put_next, new_next_nat]; omega⟩
        · rw [put_self, ht, bys_append]; simp [bys]
        · refine ⟨by rw [put_next, new_next_nat]; have := chg.next; omega, fun j hj hn => ?_⟩
          rw [put_ne _ (by omega), new_ne _ (by have := chg.next; omega)]
          exact chg.get j hj hn
      by_cases h1 : 65 ≤ c
      · by_cases h2 : c ≤ 90
        · have hlow : lowC c = c + 32 := by unfold lowC; rw [if_pos ⟨h1, h2⟩]
          have ad : ∀ h, oBin .add .none (.int .u8 (c : Int)) (.int .u8 32) h = .ok (.int .u8 ((c + 32 : Nat) : Int)) h := fun h => oBin_add8 (b := 32) (by omega)
          rw [hlow] at fin
          simp (disch := omega) only [vmL, Nat.reduceEqDiff, reduceCtorEq, ↓reduceIte, vpL, vsL, vqL, Imb122_3, Imr122_3, Imr122_4, Imr122_5, Imr122_6, Imr122_7, Imr122_8, Imr122_9, f0, f3, f10, f11, ix, ad, ap]
          obtain ⟨q1, q2, q3⟩ := fin _ rfl
          exact ⟨m - 1, by omega, k + 1, rest', by simp only [vmL, Nat.reduceEqDiff, reduceCtorEq, ↓reduceIte, vpL, vsL, vqL, f0], by simp only [vmL, Nat.reduceEqDiff, reduceCtorEq, ↓reduceIte, vpL, vsL, vqL], by simp only [vmL, Nat.reduceEqDiff, reduceCtorEq, ↓reduceIte, vpL, vsL, vqL, f10], by simp only [vmL, Nat.reduceEqDiff, reduceCtorEq, ↓reduceIte, vpL, vsL, vqL]; rfl, by omega, q1, by simp at hr; omega, q2, q3⟩
        · have hlow : lowC c = c := by unfold lowC; rw [if_neg (by omega)]
          rw [hlow] at fin
          simp (disch := omega) only [vmL, Nat.reduceEqDiff, reduceCtorEq, ↓reduceIte, vpL, vsL, vqL, Imb122_3, Imr122_3, Imr122_4, Imr122_5, Imr122_6, Imr122_7, Imr122_8, Imr122_9, f0, f3, f10, f11, ix, ap]
          obtain ⟨q1, q2, q3⟩ := fin _ rfl
          exact ⟨m - 1, by omega, k + 1, rest', by simp only [vmL, Nat.reduceEqDiff, reduceCtorEq, ↓reduceIte, vpL, vsL, vqL, f0], by simp only [vmL, Nat.reduceEqDiff, reduceCtorEq, ↓reduceIte, vpL, vsL, vqL], by simp only [vmL, Nat.reduceEqDiff, reduceCtorEq, ↓reduceIte, vpL, vsL, vqL, f10], by simp only [vmL, Nat.reduceEqDiff, reduceCtorEq, ↓reduceIte, vpL, vsL, vqL]; rfl, by omega, q1, by simp at hr; omega, q2, q3⟩
      · have hlow : lowC c = c := by unfold lowC; rw [if_neg (by omega)]
        rw [hlow] at fin
        simp (disch := omega) only [vmL, Nat.reduceEqDiff, reduceCtorEq, ↓reduceIte, vpL, vsL, vqL, Imb122_3, Imr122_3, Imr122_4, Imr122_5, Imr122_6, Imr122_7, Imr122_8, Imr122_9, f0, f3, f10, f11, ix, ap]
        obtain ⟨q1, q2, q3⟩ := fin _ rfl
        exact ⟨m - 1, by omega, k + 1, rest', by simp only [vmL, Nat.reduceEqDiff, reduceCtorEq, ↓reduceIte, vpL, vsL, vqL, f0], by simp only [vmL, Nat.reduceEqDiff, reduceCtorEq, ↓reduceIte, vpL, vsL, vqL], by simp only [vmL, Nat.reduceEqDiff, reduceCtorEq, ↓reduceIte, vpL, vsL, vqL, f10], by simp only [vmL, Nat.reduceEqDiff, reduceCtorEq, ↓reduceIte, vpL, vsL, vqL]; rfl, by omega, q1, by simp at hr; omega, q2, q3⟩
  · rintro fr g ⟨f3, rest, hg, chg⟩
    have hb := bytesStr_kn (n := s.length) hg (foldM_lt hs)
    rw [show (foldM s).length = s.length by simp [foldM]] at hb
    simp (disch := omega) only [vmL, Nat.reduceEqDiff, reduceCtorEq, ↓reduceIte, vpL, vsL, vqL, Imr122_10, f3, hb]
    exact Tells.ret (by simp only [resK, vmL, Nat.reduceEqDiff, reduceCtorEq, ↓reduceIte, vpL, vsL, vqL, tupR]) ⟨rfl, chg⟩
  · intro fr g q; exact q.elim
end Go.Proofs.Im

noncomputable section
namespace Go.Proofs.Im
open Go Go.Proofs Go.Vm
set_option linter.unusedVariables false
set_option maxRecDepth 100000
set_option linter.unusedSimpArgs false
structure Bd (b : Nat) (h : Hp) (i : Pos) (q : Nat) (t : TypeId) (l : List V) (s : List Nat) : Prop where
  hb : b ≤ i.nat
  hi : i.nat < h.next.nat
  get : h.get i = some (.cells (.rw t true) l)
  addr : l[q]? = some .nilp ∨ l[q]? = some (.ptr i q)
  buf : ∃ vb, l[q + 1]? = some vb ∧ Ow b h tB 1 vb s.length (bys s) ∧ ∀ j, idOf vb = some j → j ≠ i
  lies : liesAt Tryz.prog Tryz.prog.depth t (l.length / Tryz.prog.cellsOf t) q tBd 1 = true
theorem Bd.ch {b : Nat} {h h' : Hp} {i : Pos} {q : Nat} {t : TypeId} {l : List V} {s : List Nat} {S : Pos → Prop} (d : Bd b h i q t l s) (c : Ch S h h') (hs : ∀ j : Pos, b ≤ j.nat → j.nat < h.next.nat → ¬ S j) : Bd b h' i q t l s := by
  obtain ⟨vb, h1, h2, h3⟩ := d.buf
  refine ⟨d.hb, Nat.lt_of_lt_of_le d.hi c.next, by rw [c.get i d.hi (hs i d.hb d.hi)]; exact d.get, d.addr, ⟨vb, h1, h2.ch c fun j hj => hs j (h2.idlt hj).1 (h2.idlt hj).2, h3⟩, d.lies⟩
theorem set_len (l : List V) (q : Nat) (v : V) : (l.set q v).length = l.length := by simp
theorem check_ok {b : Nat} {h : Hp} {i : Pos} {q : Nat} {t : TypeId} {l : List V} {s : List Nat} (d : Bd b h i q t l s) :
    ∃ r h', ImF232 [.ptr i q] h = .ok r h' ∧ Bd b h' i q t (l.set q (.ptr i q)) s ∧ Ch (fun j => j = i) h h' ∧ h'.next = h.next := by
  rw [ImF232_eq]
  show Tells Tryz.prog _ (fun r h' => Bd b h' i q t (l.set q (.ptr i q)) s ∧ Ch (fun j => j = i) h h' ∧ h'.next = h.next) _
  have hg := d.get
  rcases d.addr with ha | ha
  · have L0 : oLoad1 (.ptr i q) h = .ok .nilp h := by rw [ld_get hg]; simp only [ha]
    have hql : q < l.length := (List.getElem?_eq_some_iff.1 ha).1
    have U0 := oToU_at hg ha
    have U1 := dFromU_at (P := Tryz.prog) (u := tBd) hg ha d.lies
    have S0 := st_get hg (y := .ptr i q) ⟨rfl, rfl⟩ hql
    have N0 : ImF324 [.ptr i q] h = .ok (.ptr i q) h := rfl
    simp (disch := omega) only [vmL, Nat.reduceEqDiff, reduceCtorEq, ↓reduceIte, vpL, vsL, vqL, Imd232, Imr232_0, Imr232_1, Nat.add_zero, L0, nil_eql_nil, U0, N0, U1, S0]
    refine Tells.nor (by simp only [resK, vmL, Nat.reduceEqDiff, reduceCtorEq, ↓reduceIte, vpL, vsL, vqL, tupR]; rfl) ⟨?_, Ch.put h _ rfl, rfl⟩
    obtain ⟨vb, h1, h2, h3⟩ := d.buf
    refine ⟨d.hb, d.hi, put_self _ _ _, .inr (by rw [List.getElem?_set_self hql]), ⟨vb, ?_, h2.ch (Ch.put (S := fun j => j = i) h _ rfl) fun j hj => h3 j hj, h3⟩, by rw [set_len]; exact d.lies⟩
    rw [List.getElem?_set_ne (by omega)]; exact h1
  · have L0 : oLoad1 (.ptr i q) h = .ok (.ptr i q) h := by rw [ld_get hg]; simp only [ha]
    have hql : q < l.length := (List.getElem?_eq_some_iff.1 ha).1
    simp (disch := omega) only [vmL, Nat.reduceEqDiff, reduceCtorEq, ↓reduceIte, vpL, vsL, vqL, Imd232, Imr232_0, Imr232_2, Nat.add_zero, L0, ptr_eql_nil, ptr_neq_self (n := 2) rfl]
    have he : l.set q (.ptr i q) = l := by
      apply List.ext_getElem?
      intro k
      by_cases hk : q = k
      · subst hk; rw [List.getElem?_set_self hql, ha]
      · rw [List.getElem?_set_ne hk]
    rw [he]
    exact Tells.nor (by simp only [resK, vmL, Nat.reduceEqDiff, reduceCtorEq, ↓reduceIte, vpL, vsL, vqL, tupR]; rfl) ⟨d, Ch.refl _ _, rfl⟩
def OfB (i : Pos) (q : Nat) (l : List V) (j : Pos) : Prop := j = i ∨ ∃ v, l[q + 1]? = some v ∧ idOf v = some j
theorem write_st {b : Nat} {h : Hp} {i : Pos} {q : Nat} {ty : TypeId} {l : List V} {s : List Nat} (d : Bd b h i q ty l s) (t : List Nat) (hs : s.length + t.length ≤ 1000000000) :
    ∃ r h' l', ImF123 [.ptr i q, .str t] h = .ok r h' ∧ Bd b h' i q ty l' (s ++ t) ∧ Stp (OfB i q l) h (OfB i q l') h' ∧ (∀ k, k ≠ q → k ≠ q + 1 → l'[k]? = l[k]?) ∧ l'.length = l.length := by
  obtain ⟨r1, h1, e1, d1, c1, n1⟩ := check_ok d
  obtain ⟨vb, b1, b2, b3⟩ := d1.buf
  obtain ⟨v', h2, e2, o2, c2, i2⟩ := app_str (bt := 1) (t := t) b2 (by have := d1.hb; have := d1.hi; omega) (by omega)
  have hql : q + 1 < (l.set q (V.ptr i q)).length := (List.getElem?_eq_some_iff.1 b1).1
  have L1 : oLoad1 (.ptr i (q + 1)) h1 = .ok vb h1 := by rw [ld_get d1.get]; simp only [b1]
  have g2 : h2.get i = some (.cells (.rw ty true) (l.set q (.ptr i q))) := by rw [c2.get i d1.hi fun hj => b3 i hj rfl]; exact d1.get
  have S1 := st_get g2 (y := v') o2.cell hql
  have c3 : Ch (fun j => j = i) h2 (h2.put i (some (.cells (.rw ty true) ((l.set q (.ptr i q)).set (q + 1) v')))) := Ch.put h2 _ rfl
  refine ⟨.tuple (.cons (.int .i64 (t.length : Int)) (.cons .nili .nil)), h2.put i (some (.cells (.rw ty true) ((l.set q (.ptr i q)).set (q + 1) v'))), (l.set q (.ptr i q)).set (q + 1) v', ?_, ?_, ?_, fun k hk hk' => by rw [List.getElem?_set_ne (by omega), List.getElem?_set_ne (by omega)], by simp⟩
  · rw [ImF123_eq]
    simp (disch := omega) only [vmL, Nat.reduceEqDiff, reduceCtorEq, ↓reduceIte, vpL, vsL, vqL, Imd123, Imr123_0, Imr123_1, Imr123_2, Imr123_3, e1, L1, e2, S1]
    simp only [outR, resK, vmL, Nat.reduceEqDiff, reduceCtorEq, ↓reduceIte, vpL, vsL, vqL, tupR]
    rfl
  · refine ⟨d.hb, by rw [put_next]; have := d1.hi; have := c2.next; omega, put_self _ _ _, .inr ?_, ⟨v', ?_, ?_, ?_⟩, by rw [set_len]; exact d1.lies⟩
    · rw [List.getElem?_set_ne (by omega), List.getElem?_set_self (by simp at hql; omega)]
    · rw [List.getElem?_set_self hql]
    · have o3 := o2.ch c3 fun j hj => by
        rcases i2 j hj with hj' | hj'
        · exact b3 j hj'
        · intro e; rw [e] at hj'; have := d1.hi; omega
      rw [List.length_append]; exact o3
    · intro j hj
      rcases i2 j hj with hj' | hj'
      · exact b3 j hj'
      · intro e; rw [e] at hj'; have := d1.hi; omega
  · have hb0 : l[q + 1]? = some vb := by rw [List.getElem?_set_ne (by omega)] at b1; exact b1
    have k1 : Stp (OfB i q l) h (OfB i q l) h1 := ⟨c1.mono fun j _ e => .inl e, fun _ q => .inl q⟩
    have k2 : Stp (OfB i q l) h1 (OfB i q ((l.set q (.ptr i q)).set (q + 1) v')) h2 := ⟨c2.mono fun j _ hj => .inr ⟨vb, hb0, hj⟩, fun j hj => by
      rcases hj with hj | ⟨v2, hv2, hj⟩
      · exact .inl (.inl hj)
      · rw [List.getElem?_set_self hql] at hv2
        cases hv2
        rcases i2 j hj with hj' | hj'
        · exact .inl (.inr ⟨vb, hb0, hj'⟩)
        · exact .inr hj'⟩
    exact (k1.trans k2).step c3 fun j e => .inl e
theorem OfB.from {b : Nat} {h : Hp} {i : Pos} {q : Nat} {t : TypeId} {l : List V} {s : List Nat} (d : Bd b h i q t l s) (j : Pos) (o : OfB i q l j) : b ≤ j.nat ∧ j.nat < h.next.nat := by
  rcases o with rfl | ⟨v, hv, hj⟩
  · exact ⟨d.hb, d.hi⟩
  · obtain ⟨vb, b1, b2, b3⟩ := d.buf
    rw [b1] at hv
    cases hv
    exact b2.idlt hj
theorem Bd.chO {b : Nat} {h h' : Hp} {i : Pos} {q : Nat} {t : TypeId} {l : List V} {s : List Nat} {S : Pos → Prop} (d : Bd b h i q t l s) (c : Ch S h h') (hs : ∀ j : Pos, OfB i q l j → ¬ S j) : Bd b h' i q t l s := by
  obtain ⟨vb, h1, h2, h3⟩ := d.buf
  refine ⟨d.hb, Nat.lt_of_lt_of_le d.hi c.next, by rw [c.get i d.hi (hs i (.inl rfl))]; exact d.get, d.addr, ⟨vb, h1, h2.ch c fun j hj => hs j (.inr ⟨vb, h1, hj⟩), h3⟩, d.lies⟩
theorem write_ok {b : Nat} {h : Hp} {i : Pos} {q : Nat} {ty : TypeId} {l : List V} {s : List Nat} (d : Bd b h i q ty l s) (t : List Nat) (hs : s.length + t.length ≤ 1000000000) :
    ∃ r h' l', ImF123 [.ptr i q, .str t] h = .ok r h' ∧ Bd b h' i q ty l' (s ++ t) ∧ Ch (fun j => b ≤ j.nat) h h' ∧ (∀ k, k ≠ q → k ≠ q + 1 → l'[k]? = l[k]?) ∧ l'.length = l.length := by
  obtain ⟨r, h', l', e, d', c, k, n⟩ := write_st d t hs
  exact ⟨r, h', l', e, d', c.ch.mono fun j _ o => (o.from d j).1, k, n⟩
theorem string_st {b : Nat} {h : Hp} {i : Pos} {q : Nat} {t : TypeId} {l : List V} {s : List Nat} (d : Bd b h i q t l s) (h0 : s ≠ []) (hs : ∀ c ∈ s, c < 256) (hl : s.length ≤ 1000000000) :
    ∃ h', ImF125 [.ptr i q] h = .ok (.str s) h' ∧ Ch (fun j => OfB i q l j ∧ j ≠ i) h h' ∧ h'.next = h.next := by
  obtain ⟨vb, b1, b2, b3⟩ := d.buf
  have L1 : oLoad1 (.ptr i (q + 1)) h = .ok vb h := by rw [ld_get d.get]; simp only [b1]
  have L2 : oLenK 2 vb h = .ok (.int .i64 (s.length : Int)) h := b2.sl.length
  have hpos : 0 < s.length := by cases s with | nil => exact absurd rfl h0 | cons _ _ => simp
  rcases b2.is with ⟨e0, _⟩ | ⟨j, rfl, hj1, hj2, f, hg⟩
  · omega
  · obtain ⟨m, hm⟩ : ∃ m, s.length = m + 1 := ⟨s.length - 1, by omega⟩
    have D1 : oSliceData (.slice j 0 s.length (.un 1)) h = .ok (.ptr j 0) h := by rw [hm]; rfl
    have U1 := unsafeStr_at hg hs (by omega) h0
    have hv : eqV (V.slice j 0 s.length (.un 1)) (V.slice j 0 s.length (.un 1)) = true := by
      show (match j.eq j, Nat.beq 0 0, Nat.beq s.length s.length with
        | true, true, true => Nat.beq 1 1
        | _, _, _ => false) = true
      rw [Pos.eq_self, Nat.beq_refl, Nat.beq_refl]; rfl
    refine ⟨h.put j (some (.cells .ro (bys s))), ?_, Ch.put h _ ⟨.inr ⟨_, b1, rfl⟩, b3 j rfl⟩, rfl⟩
    rw [ImF125_eq]
    simp (disch := omega) only [vmL, Nat.reduceEqDiff, reduceCtorEq, ↓reduceIte, vpL, vsL, vqL, Imd125, Imr125_0, Imr125_1, L1, L2, D1, U1, chk_one (m := fun h => oLoad1 (.ptr i (q + 1)) h) L1 hv]
    simp only [outR, resK, vmL, Nat.reduceEqDiff, reduceCtorEq, ↓reduceIte, vpL, vsL, vqL, tupR]
theorem string_ok {b : Nat} {h : Hp} {i : Pos} {q : Nat} {t : TypeId} {l : List V} {s : List Nat} (d : Bd b h i q t l s) (h0 : s ≠ []) (hs : ∀ c ∈ s, c < 256) (hl : s.length ≤ 1000000000) :
    ∃ h', ImF125 [.ptr i q] h = .ok (.str s) h' ∧ Ch (fun j => b ≤ j.nat ∧ j ≠ i) h h' ∧ h'.next = h.next := by
  obtain ⟨h', e, c, n⟩ := string_st d h0 hs hl
  exact ⟨h', e, c.mono fun j _ o => ⟨(o.1.from d j).1, o.2⟩, n⟩
end Go.Proofs.Im

noncomputable section
namespace Go.Proofs.Im
open Go Go.Proofs Go.Vm
set_option linter.unusedVariables false
set_option maxRecDepth 100000
set_option linter.unusedSimpArgs false
theorem grow0_ok {b : Nat} {h : Hp} {i : Pos} {q : Nat} {t : TypeId} {l : List V} (d : Bd b h i q t l []) (hbuf : l[q + 1]? = some .nils) (n : Nat) (h0 : 0 < n) (hn : n ≤ 1000000000) :
    ∃ r h' l', ImF260 [.ptr i q, .int .i64 (n : Int)] h = .ok r h' ∧ Bd b h' i q t l' [] ∧ Ch (fun j => b ≤ j.nat) h h' ∧ l'.length = l.length ∧ (∀ k, k ≠ q → k ≠ q + 1 → l'[k]? = l[k]?) := by
  have L1 : oLoad1 (.ptr i (q + 1)) h = .ok .nils h := by rw [ld_get d.get]; simp only [hbuf]
  have hql : q + 1 < l.length := (List.getElem?_eq_some_iff.1 hbuf).1
  have g2 : (h.new (.cells (.rw tB false) [])).get i = some (.cells (.rw t true) l) := by rw [new_ne h (by have := d.hi; omega)]; exact d.get
  have L2 : oLoad1 (.ptr i (q + 1)) (h.new (.cells (.rw tB false) [])) = .ok .nils (h.new (.cells (.rw tB false) [])) := by rw [ld_get g2]; simp only [hbuf]
  have S2 := st_get g2 (y := .slice h.next 0 0 (.un 1)) ⟨rfl, rfl⟩ hql
  have N0 : ImF356 [.int .i64 (n : Int)] h = .ok (.slice h.next 0 n (.un 1)) (h.new (.cells (.rw tB false) [])) := noZero_eq (by omega)
  have M0 : oBin .mul .none (.int .i64 2) (.int .i64 0) h = .ok (.int .i64 0) h := rfl
  have c1 : Ch (fun j => b ≤ j.nat) h (h.new (.cells (.rw tB false) [])) := Ch.new _ _ _
  have c2 : Ch (fun j => j = i) (h.new (.cells (.rw tB false) [])) ((h.new (.cells (.rw tB false) [])).put i (some (.cells (.rw t true) (l.set (q + 1) (.slice h.next 0 0 (.un 1)))))) := Ch.put _ _ rfl
  refine ⟨.tuple .nil, (h.new (.cells (.rw tB false) [])).put i (some (.cells (.rw t true) (l.set (q + 1) (.slice h.next 0 0 (.un 1))))), l.set (q + 1) (.slice h.next 0 0 (.un 1)), ?_, ?_, c1.trans (c2.mono fun j _ e => by rw [e]; exact d.hb) (fun _ _ q => q), by simp, fun k _ hk => by rw [List.getElem?_set_ne (by omega)]⟩
  · rw [ImF260_eq]
    simp (disch := omega) only [vmL, Nat.reduceEqDiff, reduceCtorEq, ↓reduceIte, vpL, vsL, vqL, Imd260, Imr260_0, Imr260_1, Imr260_2, L1, L2, oCap_nils, oLen_nils, M0, Int.zero_add, N0, S2, oSlice_un0, oCopy_nils, chk_two (m := fun h => oLoad1 (.ptr i (q + 1)) h) L1 L1 (show eqV V.nils V.nils = true from rfl)]
    simp only [outR, resK, vmL, Nat.reduceEqDiff, reduceCtorEq, ↓reduceIte, vpL, vsL, vqL, tupR]
    rfl
  · refine ⟨d.hb, by rw [put_next, new_next_nat]; have := d.hi; omega, put_self _ _ _, ?_, ⟨.slice h.next 0 0 (.un 1), by rw [List.getElem?_set_self hql], ⟨by simp [bys], .inr ⟨h.next, rfl, by have := d.hb; have := d.hi; omega, by rw [put_next, new_next_nat]; omega, false, ?_⟩⟩, ?_⟩, by rw [set_len]; exact d.lies⟩
    · rcases d.addr with ha | ha
      · left; rw [List.getElem?_set_ne (by omega)]; exact ha
      · right; rw [List.getElem?_set_ne (by omega)]; exact ha
    · rw [put_ne _ (by have := d.hi; omega), new_self]; rfl
    · intro j hj e; cases hj; have := d.hi; rw [← e] at this; omega
theorem grow_ok {b : Nat} {h : Hp} {i : Pos} {q : Nat} {t : TypeId} {l : List V} (d : Bd b h i q t l []) (hbuf : l[q + 1]? = some .nils) (n : Nat) (hn : n ≤ 1000000000) :
    ∃ r h' l', ImF163 [.ptr i q, .int .i64 (n : Int)] h = .ok r h' ∧ Bd b h' i q t l' [] ∧ Ch (fun j => b ≤ j.nat) h h' ∧ l'.length = l.length ∧ (∀ k, k ≠ q → k ≠ q + 1 → l'[k]? = l[k]?) := by
  obtain ⟨r1, h1, e1, d1, c1, n1⟩ := check_ok d
  have hbuf1 : (l.set q (V.ptr i q))[q + 1]? = some .nils := by rw [List.getElem?_set_ne (by omega)]; exact hbuf
  have L1 : oLoad1 (.ptr i (q + 1)) h1 = .ok .nils h1 := by rw [ld_get d1.get]; simp only [hbuf1]
  have k1 : Ch (fun j => b ≤ j.nat) h h1 := c1.mono fun j _ e => by rw [e]; exact d.hb
  have CK := @chk_one (fun h => oLoad1 (.ptr i (q + 1)) h) V.nils
  by_cases h0 : n = 0
  · refine ⟨.tuple .nil, h1, l.set q (.ptr i q), ?_, d1, k1, by simp, fun k hk _ => by rw [List.getElem?_set_ne (by omega)]⟩
    rw [ImF163_eq]
    simp (disch := omega) only [vmL, Nat.reduceEqDiff, reduceCtorEq, ↓reduceIte, vpL, vsL, vqL, Imd163, Imr163_0, Imr163_1, Imr163_3, e1, L1, oCap_nils, oLen_nils, chk_one (m := fun h => oLoad1 (.ptr i (q + 1)) h) L1 (show eqV V.nils V.nils = true from rfl)]
    simp only [outR, resK, vmL, Nat.reduceEqDiff, reduceCtorEq, ↓reduceIte, vpL, vsL, vqL, tupR]
    rfl
  · obtain ⟨r2, h2, l2, e2, d2, c2, n2, o2⟩ := grow0_ok d1 hbuf1 n (by omega) hn
    refine ⟨.tuple .nil, h2, l2, ?_, d2, k1.trans c2 fun _ _ q => q, by rw [n2]; simp, fun k hk hk' => by rw [o2 k hk hk', List.getElem?_set_ne (by omega)]⟩
    rw [ImF163_eq]
    simp (disch := omega) only [vmL, Nat.reduceEqDiff, reduceCtorEq, ↓reduceIte, vpL, vsL, vqL, Imd163, Imr163_0, Imr163_1, Imr163_3, Imr163_4, e1, e2, L1, oCap_nils, oLen_nils, chk_one (m := fun h => oLoad1 (.ptr i (q + 1)) h) L1 (show eqV V.nils V.nils = true from rfl)]
    simp only [outR, resK, vmL, Nat.reduceEqDiff, reduceCtorEq, ↓reduceIte, vpL, vsL, vqL, tupR]
    rfl
end Go.Proofs.Im
