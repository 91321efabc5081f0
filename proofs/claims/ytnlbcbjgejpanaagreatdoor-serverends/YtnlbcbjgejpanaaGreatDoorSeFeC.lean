/- Part of the value machine, or of a walk by it: lemmas that the claim's last text uses. No conditions. -/
import Derived.Test.YtnlbcbjgejpanaaGreatDoorSeVmO
import Derived.Test.YtnlbcbjgejpanaaGreatDoorChecked
import Derived.KernelRfl
import Derived.Test.YtnlbcbjgejpanaaGreatDoorSeFeA
import Derived.Test.YtnlbcbjgejpanaaGreatDoorSeFeB
set_option linter.unusedVariables false
set_option linter.unusedSimpArgs false
set_option linter.unnecessarySimpa false
noncomputable section
namespace Go.Proofs.Im
open Go Go.Proofs Go.Vm Go.Ln
set_option linter.unusedVariables false
set_option maxRecDepth 100000
set_option linter.unusedSimpArgs false
def txs (l : List (List Nat)) : List V := l.map V.str
theorem txs_get (l : List (List Nat)) (k : Nat) : (txs l)[k]? = (l[k]?).map V.str := by simp [txs]
structure PSt (b : Nat) (texts lits : List (List Nat)) (h : Hp) (i : Pos) (st : St) : Prop where
  ge : b ≤ i.nat
  lt : i.nat < h.next.nat
  is : ∃ (vt vl : V) (piece pos : Nat) (t : List Nat), h.get i = some (.cells (.rw tP true) [vt, vl, .int .i64 (piece : Int), .int .i64 (pos : Int)]) ∧
    Sl b h 1 vt texts.length (txs texts) ∧ Sl b h 1 vl lits.length (txs lits) ∧ texts.length = lits.length + 1 ∧ texts[piece]? = some t ∧ pos ≤ t.length ∧
    st.cur = t.drop pos ∧ st.rest = (lits.drop piece).zip (texts.drop (piece + 1))
  small : texts.length < 1000000000 ∧ ∀ t ∈ texts, t.length < 1000000000 ∧ ∀ c ∈ t, c < 256
theorem rest_ok {b : Nat} {texts lits : List (List Nat)} {h : Hp} {i : Pos} {st : St} (p : PSt b texts lits h i st) : TryF37 [.ptr i 0] h = .ok (.str st.cur) h := by
  obtain ⟨vt, vl, piece, pos, t, hg, ht, hl, hn, hp, hpos, hc, hr⟩ := p.is
  have hpl : piece < texts.length := (List.getElem?_eq_some_iff.1 hp).1
  obtain ⟨j, q, x, hx, e1, -, e2⟩ := ht.at1 hpl
  rw [txs_get, hp] at hx
  cases hx
  have L0 : oLoad1 (.ptr i 0) h = .ok vt h := ld_get hg 0
  have L2 : oLoad1 (.ptr i 2) h = .ok (.int .i64 (piece : Int)) h := ld_get hg 2
  have L3 : oLoad1 (.ptr i 3) h = .ok (.int .i64 (pos : Int)) h := ld_get hg 3
  rw [TryF37_eq]
  simp only [vmL, Nat.reduceEqDiff, reduceCtorEq, ↓reduceIte, vpL, vsL, vqL, Tryd37, Tryr37_0, Tryr37_1, L0, L2, L3, e1, e2 h rfl, oSliceStr_from hpos, outR, resK, tupR, hc]
theorem lit_ok {b : Nat} {texts lits : List (List Nat)} {h : Hp} {i : Pos} {st : St} (p : PSt b texts lits h i st) : TryF48 [.ptr i 0] h = .ok (.bool (decide (st.cur = [] ∧ st.rest ≠ []))) h := by
  have e := rest_ok p
  obtain ⟨vt, vl, piece, pos, t, hg, ht, hl, hn, hp, hpos, hc, hr⟩ := p.is
  have L1 : oLoad1 (.ptr i 1) h = .ok vl h := ld_get hg 1
  have L2 : oLoad1 (.ptr i 2) h = .ok (.int .i64 (piece : Int)) h := ld_get hg 2
  have hz : st.rest ≠ [] ↔ (piece : Int) < (lits.length : Int) := by
    rw [hr, ← List.length_pos_iff, List.length_zip, List.length_drop, List.length_drop]
    omega
  rw [TryF48_eq]
  by_cases h0 : st.cur = []
  · simp only [vmL, Nat.reduceEqDiff, reduceCtorEq, ↓reduceIte, vpL, vsL, vqL, Tryd48, Tryr48_0, Tryr48_1, e, h0, L1, L2, hl.length, outR, resK, tupR, hz, true_and, decide_true]
  · simp only [vmL, Nat.reduceEqDiff, reduceCtorEq, ↓reduceIte, vpL, vsL, vqL, Tryd48, Tryr48_0, Tryr48_1, e, h0, L1, L2, hl.length, outR, resK, tupR, hz, false_and, decide_false]
theorem PSt.go {b : Nat} {texts lits : List (List Nat)} {h : Hp} {i : Pos} {st : St} (p : PSt b texts lits h i st) (k : Nat) (hk : k ≤ st.cur.length) :
    ∃ (at0 : Int) (h' : Hp), oLoad1 (.ptr i 3) h = .ok (.int .i64 at0) h ∧ 0 ≤ at0 ∧ at0 + k < 1000000000 ∧ oStore 1 (.ptr i 3) (.int .i64 (at0 + k)) h = .ok V.undef h' ∧ PSt b texts lits h' i { st with cur := st.cur.drop k } ∧ Ch (fun j => j = i) h h' ∧ h'.next = h.next := by
  obtain ⟨vt, vl, piece, pos, t, hg, ht, hl, hn, hp, hpos, hc, hr⟩ := p.is
  have hm : t.length < 1000000000 := (p.small.2 t (List.mem_of_getElem? hp)).1
  have hkl : pos + k ≤ t.length := by rw [hc, List.length_drop] at hk; omega
  have c : Ch (fun j => j = i) h (h.put i (some (.cells (.rw tP true) [vt, vl, .int .i64 (piece : Int), .int .i64 ((pos : Int) + k)]))) := Ch.put h _ rfl
  have hb : b ≤ h.next.nat := Nat.le_trans p.ge (Nat.le_of_lt p.lt)
  refine ⟨pos, _, ld_get hg 3, by omega, by omega, st_get hg ⟨rfl, rfl⟩ (by simp), ⟨p.ge, p.lt, ⟨vt, vl, piece, pos + k, t, ?_, ht.ch c hb ?_, hl.ch c hb ?_, hn, hp, hkl, ?_, hr⟩, p.small⟩, c, rfl⟩
  · exact put_self _ _ _
  · rintro j hj rfl; have := ht.idlt hj; have := p.ge; omega
  · rintro j hj rfl; have := hl.idlt hj; have := p.ge; omega
  · show st.cur.drop k = _; rw [hc, List.drop_drop]
theorem PSt.ch {b : Nat} {texts lits : List (List Nat)} {h h' : Hp} {i : Pos} {st : St} {S : Pos → Prop} (p : PSt b texts lits h i st) (c : Ch S h h') (hs : ∀ j : Pos, S j → i.nat < j.nat) : PSt b texts lits h' i st := by
  obtain ⟨vt, vl, piece, pos, t, hg, ht, hl, hn, hp, hpos, hc, hr⟩ := p.is
  have hb : b ≤ h.next.nat := Nat.le_trans p.ge (Nat.le_of_lt p.lt)
  refine ⟨p.ge, Nat.lt_of_lt_of_le p.lt c.next, ⟨vt, vl, piece, pos, t, ?_, ht.ch c hb ?_, hl.ch c hb ?_, hn, hp, hpos, hc, hr⟩, p.small⟩
  · rw [c.get i p.lt fun q => by have := hs i q; omega]; exact hg
  · intro j hj q; have := ht.idlt hj; have := p.ge; have := hs j q; omega
  · intro j hj q; have := hl.idlt hj; have := p.ge; have := hs j q; omega
theorem PSt.cur_small {b : Nat} {texts lits : List (List Nat)} {h : Hp} {i : Pos} {st : St} (p : PSt b texts lits h i st) : st.cur.length < 1000000000 ∧ ∀ c ∈ st.cur, c < 256 := by
  obtain ⟨vt, vl, piece, pos, t, hg, ht, hl, hn, hp, hpos, hc, hr⟩ := p.is
  have := p.small.2 t (List.mem_of_getElem? hp)
  rw [hc]
  exact ⟨by rw [List.length_drop]; omega, fun c h => this.2 c (List.mem_of_mem_drop h)⟩
theorem next_ok {b : Nat} {texts lits : List (List Nat)} {h : Hp} {i : Pos} {st : St} (p : PSt b texts lits h i st) (c : Nat) :
    (nextM c st = none ∧ TryF45 [.ptr i 0, .int .u8 (c : Int)] h = .ok (.bool false) h) ∨
    ∃ st' h', nextM c st = some st' ∧ TryF45 [.ptr i 0, .int .u8 (c : Int)] h = .ok (.bool true) h' ∧ PSt b texts lits h' i st' ∧ Ch (fun j => j = i) h h' ∧ h'.next = h.next := by
  have e := rest_ok p
  rw [TryF45_eq]
  cases hc : st.cur with
  | nil =>
    refine .inl ⟨by unfold nextM; rw [hc], ?_⟩
    rw [hc] at e
    simp only [vmL, Nat.reduceEqDiff, reduceCtorEq, ↓reduceIte, vpL, vsL, vqL, Tryd45, Tryr45_0, Tryr45_1, Tryr45_2, Tryr45_3, e, outR, resK, tupR, decide_true]
  | cons d l =>
    rw [hc] at e
    have hne : ¬ (d :: l = ([] : List Nat)) := by simp
    by_cases hd : d = c
    · subst hd
      obtain ⟨a, h', l1, l2, l3, l4, l5, l6, l7⟩ := p.go 1 (by rw [hc]; simp)
      refine .inr ⟨{ st with cur := l }, h', by unfold nextM; rw [hc]; simp only [↓reduceIte], ?_, by rw [hc] at l5; exact l5, l6, l7⟩
      simp (disch := omega) only [vmL, Nat.reduceEqDiff, reduceCtorEq, ↓reduceIte, vpL, vsL, vqL, Tryd45, Tryr45_0, Tryr45_1, Tryr45_2, Tryr45_3, Tryr45_4, Tryr45_5, e, hne, oIdxStr_lit0 (s := d :: l) (a := d) rfl, outR, resK, tupR, decide_true, decide_false, ne_eq, not_true, not_false_eq_true, l1, show (a + 1 : Int) = a + (1 : Nat) from rfl, l4]
    · have hd' : ¬ (d : Int) = (c : Int) := by omega
      refine .inl ⟨by unfold nextM; rw [hc]; simp only [hd, ↓reduceIte], ?_⟩
      simp (disch := omega) only [vmL, Nat.reduceEqDiff, reduceCtorEq, ↓reduceIte, vpL, vsL, vqL, Tryd45, Tryr45_0, Tryr45_1, Tryr45_2, Tryr45_3, e, hne, oIdxStr_lit0 (s := d :: l) (a := d) rfl, outR, resK, tupR, decide_true, decide_false, ne_eq, hd', not_true, not_false_eq_true]
end Go.Proofs.Im

noncomputable section
namespace Go.Proofs.Im
open Go Go.Proofs Go.Vm Go.Ln
set_option linter.unusedVariables false
set_option maxRecDepth 100000
set_option linter.unusedSimpArgs false
def two (x y : V) : V := .tuple (.cons x (.cons y .nil))
def QuotedQ (b : Nat) (texts lits : List (List Nat)) (h : Hp) (i : Pos) (st : St) (r : V) (h' : Hp) : Prop :=
  Ch (fun j => j = i) h h' ∧ ((quotedM st.cur = none ∧ r = two (.str []) (.bool false)) ∨ ∃ t s, quotedM st.cur = some (t, s) ∧ r = two (.str t) (.bool true) ∧ PSt b texts lits h' i { st with cur := s })
theorem quotedM_quote (s : List Nat) : quotedM (34 :: s) = some ([], s) := by unfold quotedM; rfl
theorem quotedM_cr (s : List Nat) : quotedM (13 :: s) = none := by unfold quotedM; rfl
theorem quotedM_esc (d : Nat) (s : List Nat) (hd : d = 34 ∨ d = 92) : quotedM (92 :: d :: s) = (quotedM s).map fun p => (d :: p.1, p.2) := by
  rw [quotedM]
  simp only [hd, if_true]
  cases quotedM s with
  | none => rfl
  | some p => rfl
theorem quotedM_esc1 : quotedM [92] = none := by unfold quotedM; rfl
theorem quotedM_esc2 (d : Nat) (s : List Nat) (hd : ¬ (d = 34 ∨ d = 92)) : quotedM (92 :: d :: s) = none := by
  rw [quotedM]
  simp [hd]
theorem quotedM_more (c : Nat) (s : List Nat) (h1 : c ≠ 34) (h2 : c ≠ 13) (h3 : c ≠ 92) : quotedM (c :: s) = (quotedM s).map fun p => (c :: p.1, p.2) := by
  rw [quotedM.eq_def]
  simp only [h1, h2, h3, if_false]
  cases quotedM s with
  | none => rfl
  | some p => rfl
theorem quoted_ok {b : Nat} {texts lits : List (List Nat)} {h : Hp} {i : Pos} {st : St} (p : PSt b texts lits h i st) : ∃ r h', TryF49 [.ptr i 0] h = .ok r h' ∧ QuotedQ b texts lits h i st r h' := by
  have e := rest_ok p
  have hcs := p.cur_small
  rw [TryF49_eq]
  show Tells Tryz.prog _ (QuotedQ b texts lits h i st) _
  simp only [vmL, Nat.reduceEqDiff, reduceCtorEq, ↓reduceIte, vpL, vsL, vqL, Tryd49, Tryr49_0, Tryr49_1, Tryr49_2, e]
  refine Oc.then (loop_rule (n := st.cur.length) (fun m fr g => ∃ vb bs cur, fr.get (Pos.of 0) = some (.ptr i 0) ∧ fr.get (Pos.of 4) = some vb ∧ fr.get (Pos.of 5) = some (.str cur) ∧ cur.length = m ∧
      Ow 0 g tB 1 vb bs.length (bys bs) ∧ (∀ j, idOf vb = some j → h.next.nat ≤ j.nat) ∧ PSt b texts lits g i { st with cur := cur } ∧ Ch (fun j => j = i) h g ∧ (∀ c ∈ bs, c < 256) ∧ bs.length + cur.length ≤ st.cur.length ∧
      quotedM st.cur = (quotedM cur).map fun p => (bs ++ p.1, p.2))
    (A := fun fr g => quotedM st.cur = none ∧ Ch (fun j => j = i) h g) (B := fun fr g => ∃ x y, fr.get (Pos.of 2) = some x ∧ fr.get (Pos.of 3) = some y ∧ QuotedQ b texts lits h i st (two x y) g) (by rw [lf_eq]; omega) ?_ ?_) ?_ ?_
  · exact ⟨.nils, [], st.cur, by simp only [vmL, Nat.reduceEqDiff, reduceCtorEq, ↓reduceIte, vpL, vsL, vqL], by simp only [vmL, Nat.reduceEqDiff, reduceCtorEq, ↓reduceIte, vpL, vsL, vqL], by simp only [vmL, Nat.reduceEqDiff, reduceCtorEq, ↓reduceIte, vpL, vsL, vqL], rfl, Ow.nil _ _ _ _, fun j hj => (by cases hj), p, Ch.refl _ _, fun c hc => (by cases hc), by simp, by cases quotedM st.cur <;> rfl⟩
  · rintro m fr g ⟨vb, bs, cur, f0, f4, f5, rfl, ob, idb, pg, chg, hbs, hbl, hq⟩
    have curs := pg.cur_small
    cases hcur : cur with
    | nil =>
      rw [hcur] at f5 hq
      simp (disch := omega) only [vmL, Nat.reduceEqDiff, reduceCtorEq, ↓reduceIte, vpL, vsL, vqL, Tryb49_3, Tryr49_3, f5, ne_eq, not_true, decide_false]
      exact ⟨rfl, hq, chg⟩
    | cons c l =>
      subst hcur
      have hne : ¬ (c :: l = ([] : List Nat)) := by simp
      have hc256 : c < 256 := curs.2 c (by simp)
      obtain ⟨a, g1, l1, l2, l3, l4, p1, c1, n1⟩ := pg.go 1 (by simp)
      have ch1 := chg.trans c1 fun j _ q => q
      have ob1 : Ow 0 g1 tB 1 vb bs.length (bys bs) := ob.ch c1 fun j hj q => by have := idb j hj; have := p.lt; subst q; omega
      replace p1 : PSt b texts lits g1 i { st with cur := l } := p1
      have l4' : oStore 1 (.ptr i 3) (.int .i64 (a + 1)) g = .ok V.undef g1 := l4
      have hlen : bs.length + (l.length + 1) ≤ st.cur.length := hbl
      by_cases hc1 : c = 34
      · subst hc1
        rw [quotedM_quote] at hq
        have ix : ∀ h, oIdxStr (.str (34 :: l)) (.int .i64 0) h = .ok (.int .u8 34) h := fun h => oIdxStr_lit0 rfl
        simp (disch := omega) only [vmL, Nat.reduceEqDiff, reduceCtorEq, ↓reduceIte, vpL, vsL, vqL, Tryb49_3, Tryr49_3, Tryr49_5, Tryr49_6, Tryr49_8, Tryr49_9, f0, f4, f5, hne, ne_eq, not_false_eq_true, decide_true, ix, l1, l4', oBytesStr_ok ob1.sl hbs fun _ _ => rfl]
        refine ⟨.str bs, .bool true, ?_, ?_, ch1, .inr ⟨bs, l, ?_, rfl, p1⟩⟩
        · simp only [vmL, Nat.reduceEqDiff, reduceCtorEq, ↓reduceIte, vpL, vsL, vqL]
        · simp only [vmL, Nat.reduceEqDiff, reduceCtorEq, ↓reduceIte, vpL, vsL, vqL]
        · rw [hq]; simp
      · have hc1' : ¬ (c : Int) = 34 := by omega
        by_cases hc2 : c = 13
        · subst hc2
          rw [quotedM_cr] at hq
          have ix : ∀ h, oIdxStr (.str (13 :: l)) (.int .i64 0) h = .ok (.int .u8 13) h := fun h => oIdxStr_lit0 rfl
          simp (disch := omega) only [vmL, Nat.reduceEqDiff, reduceCtorEq, ↓reduceIte, vpL, vsL, vqL, Tryb49_3, Tryr49_3, Tryr49_5, Tryr49_6, Tryr49_8, Tryr49_10, Tryr49_11, f0, f4, f5, hne, ne_eq, not_false_eq_true, decide_true, ix, l1, l4', show ¬ (13 : Int) = 34 by omega]
          refine ⟨.str [], .bool false, ?_, ?_, ch1, .inl ⟨hq, rfl⟩⟩
          · simp only [vmL, Nat.reduceEqDiff, reduceCtorEq, ↓reduceIte, vpL, vsL, vqL]
          · simp only [vmL, Nat.reduceEqDiff, reduceCtorEq, ↓reduceIte, vpL, vsL, vqL]
        · have hc2' : ¬ (c : Int) = 13 := by omega
          by_cases hc3 : c = 92
          · subst hc3
            cases l with
            | nil =>
              rw [quotedM_esc1] at hq
              have ix : ∀ h, oIdxStr (.str [92]) (.int .i64 0) h = .ok (.int .u8 92) h := fun h => oIdxStr_lit0 rfl
              simp (disch := omega) only [vmL, Nat.reduceEqDiff, reduceCtorEq, ↓reduceIte, vpL, vsL, vqL, Tryb49_3, Tryr49_3, Tryr49_5, Tryr49_6, Tryr49_8, Tryr49_10, Tryr49_12, Tryr49_13, Tryr49_14, f0, f4, f5, hne, ne_eq, not_false_eq_true, decide_true, ix, l1, l4', show ¬ (92 : Int) = 34 by omega, show ¬ (92 : Int) = 13 by omega, List.length_cons, List.length_nil, Nat.zero_add, Int.natCast_one, show ((1 : Nat) : Int) < 2 by omega]
              refine ⟨.str [], .bool false, ?_, ?_, ch1, .inl ⟨hq, rfl⟩⟩
              · simp only [vmL, Nat.reduceEqDiff, reduceCtorEq, ↓reduceIte, vpL, vsL, vqL]
              · simp only [vmL, Nat.reduceEqDiff, reduceCtorEq, ↓reduceIte, vpL, vsL, vqL]
            | cons d l =>
              have hd256 : d < 256 := curs.2 d (by simp)
              have ix : ∀ h, oIdxStr (.str (92 :: d :: l)) (.int .i64 0) h = .ok (.int .u8 92) h := fun h => oIdxStr_lit0 rfl
              have ix1 : ∀ h, oIdxStr (.str (92 :: d :: l)) (.int .i64 1) h = .ok (.int .u8 (d : Int)) h := fun h => oIdxStr_lit1 rfl
              have hl2 : ¬ ((92 :: d :: l).length : Int) < 2 := by simp only [List.length_cons]; omega
              by_cases hd : d = 34 ∨ d = 92
              · rw [quotedM_esc d l hd] at hq
                obtain ⟨vb', g2, a1, a2, a3, a4, a5⟩ := app1_ok (bt := 1) (new := [V.int .u8 (d : Int)]) ob1 rfl (by omega)
                have p2 := p1.ch a4 fun j hj => by have := idb j hj; have := p.lt; omega
                obtain ⟨a', g3, m1, m2, m3, m4, p3, c3, n3⟩ := p2.go 1 (by simp)
                replace p3 : PSt b texts lits g3 i { st with cur := l } := p3
                have m4' : oStore 1 (.ptr i 3) (.int .i64 (a' + 1)) g2 = .ok V.undef g3 := m4
                have hlast : ∀ x : Bool, oBin .neq .none (.int .u8 (d : Int)) (.int .u8 34) g1 = .ok (.bool x) g1 → True := fun _ _ => trivial
                have hd' : (¬ (d : Int) = 34) → (d : Int) = 92 := by omega
                have a3' : Ow 0 g3 tB 1 vb' (bs.length + 1) (bys bs ++ [V.int .u8 (d : Int)]) := a3.ch c3 fun j hj q => by rw [a2] at hj; cases hj; have hqq : g1.next.succ.nat = i.nat := (congrArg Pos.nat q); rw [Pos.nat_succ] at hqq; have := ch1.next; have := p.lt; omega
                by_cases h34 : (d : Int) = 34
                · simp (disch := omega) only [vmL, Nat.reduceEqDiff, reduceCtorEq, ↓reduceIte, vpL, vsL, vqL, Tryb49_3, Tryr49_3, Tryr49_5, Tryr49_6, Tryr49_8, Tryr49_10, Tryr49_12, Tryr49_13, Tryr49_15, Tryr49_16, Tryr49_4, f0, f4, f5, hne, ne_eq, not_true, not_false_eq_true, decide_true, decide_false, ix, ix1, hl2, eq_true h34, l1, l4', show ¬ (92 : Int) = 34 by omega, show ¬ (92 : Int) = 13 by omega, a1, m1, m4', rest_ok p3]
                  refine ⟨l.length, by simp only [List.length_cons]; omega, vb', bs ++ [d], l, ?_, ?_, ?_, rfl, by rw [bys_append, List.length_append]; exact a3', fun j hj => ?_, p3, ?_, ?_, ?_, ?_⟩
                  · simp only [vmL, Nat.reduceEqDiff, reduceCtorEq, ↓reduceIte, vpL, vsL, vqL, f0]
                  · simp only [vmL, Nat.reduceEqDiff, reduceCtorEq, ↓reduceIte, vpL, vsL, vqL]
                  · simp only [vmL, Nat.reduceEqDiff, reduceCtorEq, ↓reduceIte, vpL, vsL, vqL]
                  · rw [a2] at hj; cases hj; rw [Pos.nat_succ]; have := ch1.next; omega
                  · exact (ch1.trans a4 fun j hj q => by have := idb j q; omega).trans c3 fun j _ q => q
                  · intro y hy; rcases List.mem_append.1 hy with hy | hy
                    · exact hbs y hy
                    · rw [List.mem_singleton.1 hy]; exact hd256
                  · simp only [List.length_append, List.length_cons, List.length_nil] at hbl ⊢; omega
                  · rw [hq]; cases quotedM l <;> simp
                · simp (disch := omega) only [vmL, Nat.reduceEqDiff, reduceCtorEq, ↓reduceIte, vpL, vsL, vqL, Tryb49_3, Tryr49_3, Tryr49_5, Tryr49_6, Tryr49_8, Tryr49_10, Tryr49_12, Tryr49_13, Tryr49_15, Tryr49_16, Tryr49_4, f0, f4, f5, hne, ne_eq, not_true, not_false_eq_true, decide_true, decide_false, ix, ix1, hl2, h34, eq_true (hd' h34), l1, l4', show ¬ (92 : Int) = 34 by omega, show ¬ (92 : Int) = 13 by omega, a1, m1, m4', rest_ok p3]
                  refine ⟨l.length, by simp only [List.length_cons]; omega, vb', bs ++ [d], l, ?_, ?_, ?_, rfl, by rw [bys_append, List.length_append]; exact a3', fun j hj => ?_, p3, ?_, ?_, ?_, ?_⟩
                  · simp only [vmL, Nat.reduceEqDiff, reduceCtorEq, ↓reduceIte, vpL, vsL, vqL, f0]
                  · simp only [vmL, Nat.reduceEqDiff, reduceCtorEq, ↓reduceIte, vpL, vsL, vqL]
                  · simp only [vmL, Nat.reduceEqDiff, reduceCtorEq, ↓reduceIte, vpL, vsL, vqL]
                  · rw [a2] at hj; cases hj; rw [Pos.nat_succ]; have := ch1.next; omega
                  · exact (ch1.trans a4 fun j hj q => by have := idb j q; omega).trans c3 fun j _ q => q
                  · intro y hy; rcases List.mem_append.1 hy with hy | hy
                    · exact hbs y hy
                    · rw [List.mem_singleton.1 hy]; exact hd256
                  · simp only [List.length_append, List.length_cons, List.length_nil] at hbl ⊢; omega
                  · rw [hq]; cases quotedM l <;> simp
              · rw [quotedM_esc2 d l hd] at hq
                have h34 : ¬ (d : Int) = 34 := by omega
                have h92 : ¬ (d : Int) = 92 := by omega
                simp (disch := omega) only [vmL, Nat.reduceEqDiff, reduceCtorEq, ↓reduceIte, vpL, vsL, vqL, Tryb49_3, Tryr49_3, Tryr49_5, Tryr49_6, Tryr49_8, Tryr49_10, Tryr49_12, Tryr49_13, Tryr49_14, f0, f4, f5, hne, ne_eq, not_false_eq_true, decide_true, decide_false, ix, ix1, hl2, h34, h92, l1, l4', show ¬ (92 : Int) = 34 by omega, show ¬ (92 : Int) = 13 by omega]
                refine ⟨.str [], .bool false, ?_, ?_, ch1, .inl ⟨hq, rfl⟩⟩
                · simp only [vmL, Nat.reduceEqDiff, reduceCtorEq, ↓reduceIte, vpL, vsL, vqL]
                · simp only [vmL, Nat.reduceEqDiff, reduceCtorEq, ↓reduceIte, vpL, vsL, vqL]
          · have hc3' : ¬ (c : Int) = 92 := by omega
            rw [quotedM_more c l hc1 hc2 hc3] at hq
            obtain ⟨vb', g2, a1, a2, a3, a4, a5⟩ := app1_ok (bt := 1) (new := [V.int .u8 (c : Int)]) ob1 rfl (by omega)
            have p2 := p1.ch a4 fun j hj => by have := idb j hj; have := p.lt; omega
            have p2' := p2
            simp (disch := omega) only [vmL, Nat.reduceEqDiff, reduceCtorEq, ↓reduceIte, vpL, vsL, vqL, Tryb49_3, Tryr49_3, Tryr49_5, Tryr49_6, Tryr49_8, Tryr49_10, Tryr49_12, Tryr49_7, Tryr49_4, f0, f4, f5, hne, ne_eq, not_false_eq_true, decide_true, oIdxStr_lit0 (s := c :: l) (a := c) rfl, l1, l4', hc1', hc2', hc3', a1, rest_ok p2]
            refine ⟨l.length, by simp, vb', bs ++ [c], l, ?_, ?_, ?_, rfl, by rw [bys_append, List.length_append]; exact a3, fun j hj => ?_, p2', (ch1.trans a4 fun j hj q => by have := idb j q; omega), ?_, ?_, ?_⟩
            · simp only [vmL, Nat.reduceEqDiff, reduceCtorEq, ↓reduceIte, vpL, vsL, vqL, f0]
            · simp only [vmL, Nat.reduceEqDiff, reduceCtorEq, ↓reduceIte, vpL, vsL, vqL]
            · simp only [vmL, Nat.reduceEqDiff, reduceCtorEq, ↓reduceIte, vpL, vsL, vqL]
            · rw [a2] at hj; cases hj; rw [Pos.nat_succ]; have := ch1.next;  omega
            · intro y hy; rcases List.mem_append.1 hy with hy | hy
              · exact hbs y hy
              · rw [List.mem_singleton.1 hy]; exact hc256
            · simp only [List.length_append, List.length_cons, List.length_nil] at hbl ⊢; omega
            · rw [hq]; cases quotedM l <;> simp
  · rintro fr g ⟨hq, chg⟩
    simp only [vmL, Nat.reduceEqDiff, reduceCtorEq, ↓reduceIte, vpL, vsL, vqL, Tryr49_17]
    exact Tells.ret (by simp only [resK, vmL, Nat.reduceEqDiff, reduceCtorEq, ↓reduceIte, vpL, vsL, vqL, tupR]; rfl) ⟨chg, .inl ⟨hq, rfl⟩⟩
  · rintro fr g ⟨x, y, f2, f3, hQ⟩
    exact Tells.ret (by simp only [resK, f2, f3, tupR]; rfl) hQ
end Go.Proofs.Im

noncomputable section
namespace Go.Ln
open Go Go.Vm Go.Proofs.Im
set_option linter.unusedVariables false
def Wds.app : Wds → Wds → Wds
  | .nil, b => b
  | .cons k t ks r, b => .cons k t ks (r.app b)
theorem Wds.app_assoc : ∀ a b c : Wds, (a.app b).app c = a.app (b.app c)
  | .nil, b, c => rfl
  | .cons k t ks r, b, c => by rw [Wds.app, Wds.app, Wds.app, Wds.app_assoc r]
theorem Wds.len_app : ∀ a b : Wds, (a.app b).len = a.len + b.len
  | .nil, b => by simp [Wds.app, Wds.len]
  | .cons k t ks r, b => by rw [Wds.app, Wds.len, Wds.len, Wds.len_app r]; omega
def WAt (P : Pos → Prop) (h : Hp) : Wds → List V → Prop
  | .nil, cs => cs = []
  | .cons k t ks r, cs => ∃ vk ck cr, cs = [.int .i64 k, .str t, vk] ++ cr ∧ Ow 0 h tW 3 vk ks.len ck ∧ (∀ j, idOf vk = some j → P j) ∧ WAt P h ks ck ∧ WAt P h r cr
def WRow (P : Pos → Prop) (h : Hp) (v : V) (ws : Wds) : Prop := ∃ cs, Ow 0 h tW 3 v ws.len cs ∧ (∀ j, idOf v = some j → P j) ∧ WAt P h ws cs
theorem WAt.ch {P P' S : Pos → Prop} {h h' : Hp} (c : Ch S h h') (hs : ∀ j : Pos, j.nat < h.next.nat → P j → P' j ∧ ¬ S j) : ∀ {ws : Wds} {cs : List V}, WAt P h ws cs → WAt P' h' ws cs
  | .nil, _, w => w
  | .cons k t ks r, _, ⟨vk, ck, cr, e, o, p, a, b⟩ => ⟨vk, ck, cr, e, o.ch c fun j hj => (hs j (o.idlt hj).2 (p j hj)).2, fun j hj => (hs j (o.idlt hj).2 (p j hj)).1, WAt.ch c hs a, WAt.ch c hs b⟩
theorem WRow.ch {P P' S : Pos → Prop} {h h' : Hp} {v : V} {ws : Wds} (w : WRow P h v ws) (c : Ch S h h') (hs : ∀ j : Pos, j.nat < h.next.nat → P j → P' j ∧ ¬ S j) : WRow P' h' v ws := by
  obtain ⟨cs, o, p, a⟩ := w
  exact ⟨cs, o.ch c fun j hj => (hs j (o.idlt hj).2 (p j hj)).2, fun j hj => (hs j (o.idlt hj).2 (p j hj)).1, a.ch c hs⟩
theorem WRow.nil (P : Pos → Prop) (h : Hp) : WRow P h .nils .nil := ⟨[], Ow.nil _ _ _ _, fun j hj => (by cases hj), rfl⟩
theorem WAt.app {P : Pos → Prop} {h : Hp} {b : Wds} {cb : List V} (hb : WAt P h b cb) : ∀ {a : Wds} {ca : List V}, WAt P h a ca → WAt P h (a.app b) (ca ++ cb)
  | .nil, _, w => by rw [show _ = ([] : List V) from w]; exact hb
  | .cons k t ks r, _, ⟨vk, ck, cr, e, o, p, x, y⟩ => ⟨vk, ck, cr ++ cb, by rw [e, List.append_assoc], o, p, x, WAt.app hb y⟩
theorem nextM_size {c : Nat} {st st' : St} (e : nextM c st = some st') : St.size st' + 1 = St.size st := by
  unfold nextM at e
  split at e
  · cases e
  · rename_i d l hc
    split at e
    · cases e; simp only [St.size, hc, List.length_cons]; omega
    · cases e
theorem quotedM_size : ∀ {n : Nat} {s t r : List Nat}, s.length ≤ n → quotedM s = some (t, r) → r.length < s.length
  | 0, s, t, r, hn, e => by
    have : s = [] := List.length_eq_zero_iff.1 (by omega)
    subst this
    unfold quotedM at e; cases e
  | n + 1, [], t, r, hn, e => by unfold quotedM at e; cases e
  | n + 1, c :: s, t, r, hn, e => by
    have hn' : s.length ≤ n := by simpa using hn
    rw [quotedM.eq_def] at e
    simp only [] at e
    split at e
    · cases e; simp
    · split at e
      · cases e
      · split at e
        · cases s with
          | nil => cases e
          | cons d s' =>
            simp only [] at e
            split at e
            · cases hq : quotedM s' with
              | none => rw [hq] at e; cases e
              | some p => rw [hq] at e; cases e; have := quotedM_size (n := n) (by simp only [List.length_cons] at hn'; omega) hq; simp only [List.length_cons]; omega
            · cases e
        · cases hq : quotedM s with
          | none => rw [hq] at e; cases e
          | some p => rw [hq] at e; cases e; have := quotedM_size (n := n) hn' hq; simp only [List.length_cons]; omega
theorem loopW_size {word : St → Option (Wd × St)} (hw : ∀ st w st', word st = some (w, st') → St.size st' < St.size st) : ∀ {f : Nat} {st : St} {ws : Wds} {st' : St}, loopW word f st = some (ws, st') → St.size st' < St.size st
  | 0, st, ws, st', e => by cases e
  | f + 1, st, ws, st', e => by
    rw [loopW] at e
    cases h1 : word st with
    | none => rw [h1] at e; cases e
    | some p =>
      obtain ⟨w, st1⟩ := p
      rw [h1] at e
      have s1 := hw _ _ _ h1
      simp only [] at e
      cases h2 : nextM 32 st1 with
      | none => rw [h2] at e; cases e; exact s1
      | some st2 =>
        rw [h2] at e
        have s2 := nextM_size h2
        simp only [] at e
        cases h3 : loopW word f st2 with
        | none => rw [h3] at e; cases e
        | some q =>
          rw [h3] at e; cases e
          have := loopW_size hw h3
          omega
theorem wordM_size : ∀ {n : Nat} {st : St} {w : Wd} {st' : St}, wordM n st = some (w, st') → St.size st' < St.size st
  | n, ⟨[], []⟩, w, st', e => by rw [wordM] at e; cases e
  | n, ⟨[], (l, t) :: r⟩, w, st', e => by rw [wordM] at e; cases e; simp only [St.size, List.length_nil, List.map_cons, List.sum_cons]; omega
  | n, ⟨c :: s, r⟩, w, st', e => by
    rw [wordM.eq_def] at e
    simp only [] at e
    split at e
    · cases hq : quotedM s with
      | none => rw [hq] at e; cases e
      | some p => rw [hq] at e; cases e; have := quotedM_size (Nat.le_refl _) hq; simp only [St.size, List.length_cons]; omega
    · split at e
      · cases n with
        | zero => cases e
        | succ n =>
          simp only [] at e
          cases h1 : nextM 41 ⟨s, r⟩ with
          | some st1 => rw [h1] at e; cases e; have := nextM_size h1; simp only [St.size, List.length_cons] at this ⊢; omega
          | none =>
            rw [h1] at e
            simp only [] at e
            cases h2 : loopW (wordM n) (St.size ⟨s, r⟩ + 1) ⟨s, r⟩ with
            | none => rw [h2] at e; cases e
            | some q =>
              obtain ⟨ws, st1⟩ := q
              rw [h2] at e
              simp only [] at e
              have s2 := loopW_size (fun _ _ _ h => wordM_size (n := n) h) h2
              cases h3 : nextM 41 st1 with
              | none => rw [h3] at e; cases e
              | some st2 => rw [h3] at e; cases e; have := nextM_size h3; simp only [St.size, List.length_cons] at s2 this ⊢; omega
      · split at e
        · rename_i ha
          cases e
          have : ((c :: s).dropWhile atomC).length ≤ s.length := by
            rw [List.dropWhile_cons_of_pos ha]
            exact (List.dropWhile_suffix _).length_le
          simp only [St.size, List.length_cons]; omega
        · cases e
theorem loopW_fuel {word : St → Option (Wd × St)} (hw : ∀ st w st', word st = some (w, st') → St.size st' < St.size st) : ∀ {f g : Nat} {st : St}, St.size st < f → St.size st < g → loopW word f st = loopW word g st
  | 0, _, _, h, _ => by omega
  | _, 0, _, _, h => by omega
  | f + 1, g + 1, st, h1, h2 => by
    rw [loopW, loopW]
    cases e1 : word st with
    | none => rfl
    | some p =>
      obtain ⟨w, st1⟩ := p
      have s1 := hw _ _ _ e1
      simp only []
      cases e2 : nextM 32 st1 with
      | none => rfl
      | some st2 =>
        have s2 := nextM_size e2
        simp only []
        rw [loopW_fuel hw (f := f) (g := g) (by omega) (by omega)]
end Go.Ln
namespace Go.Vm
variable {h : Hp} {tW : TypeId}
theorem oBuild_w2 (k : Int) (s : List Nat) : oBuild [.int .i64 0, .str [], .nils] [(0, 1, .int .i64 k), (1, 1, .str s)] h = .ok (.agg (.cons (.int .i64 k) (.cons (.str s) (.cons .nils .nil)))) h := (rfl)
theorem oBuild_w1 (k : Int) : oBuild [.int .i64 0, .str [], .nils] [(0, 1, .int .i64 k)] h = .ok (.agg (.cons (.int .i64 k) (.cons (.str []) (.cons .nils .nil)))) h := (rfl)
theorem oBuild_w0 : oBuild [.int .i64 0, .str [], .nils] [] h = .ok (.agg (.cons (.int .i64 0) (.cons (.str []) (.cons .nils .nil)))) h := (rfl)
theorem oNew_w : oNew tW [.int .i64 0, .str [], .nils] h = .ok (.ptr h.next 0) (h.new (.cells (.rw tW true) [.int .i64 0, .str [], .nils])) := (rfl)
theorem aNew_w : aNew tW [.int .i64 0, .str [], .nils] = some (.cells (.rw tW true) [.int .i64 0, .str [], .nils], fun p => .ptr p 0) := (rfl)
theorem st3_get {i : Pos} {x y z : V} {a b c : V} (hg : h.get i = some (.cells (.rw tW true) [x, y, z])) : oStore 3 (.ptr i 0) (.agg (.cons a (.cons b (.cons c .nil)))) h = .ok V.undef (h.put i (some (.cells (.rw tW true) [a, b, c]))) := by
  rw [oStore_row hg rfl rfl]
  rfl
theorem ldN3_get {i : Pos} {wr : Wr} {a b c : V} (hg : h.get i = some (.cells wr [a, b, c])) : oLoadN 3 (.ptr i 0) h = .ok (.agg (.cons a (.cons b (.cons c .nil)))) h := by
  show hCells h i (fun _ cs => match takeV 3 (dropV 0 cs) with | some l => R.ok (V.agg (V.ofList l)) h | none => .bad) = _
  rw [hCells_rowA (wr := wr) (all := [a, b, c]) (by rw [hg]; rfl)]
  rfl
theorem oBuildSlice_3 (a b c : V) : oBuildSlice tW [.int .i64 0, .str [], .nils] 1 [(0, 3, .agg (.cons a (.cons b (.cons c .nil))))] h = .ok (.slice h.next 0 1 (.kn 1)) (h.new (.cells (.rw tW true) [a, b, c])) := (rfl)
end Go.Vm

noncomputable section
namespace Go.Proofs.Im
open Go Go.Proofs Go.Vm Go.Ln
set_option linter.unusedVariables false
set_option maxRecDepth 100000
set_option linter.unusedSimpArgs false
theorem idx_ok {c : Nat} (hc : c < 256) (s : List Nat) (h : Hp) : TryF50 [.str s, .int .u8 (c : Int)] h = .ok (.int .i64 (idxB c s)) h := by
  have e : TryF52 [.str s, .int .u8 (c : Int)] h = .ok (.int .i64 (idxB c s)) h := by
    show (match Nat.blt c 256 with | true => okInt .i64 (idxB c s) h | false => .bad) = _
    rw [show Nat.blt c 256 = true by rw [Nat.blt_eq]; exact hc]
    exact okInt_eq _ _ _
  rw [TryF50_eq]
  simp only [vmL, Nat.reduceEqDiff, reduceCtorEq, ↓reduceIte, vpL, vsL, vqL, Tryd50, Tryr50_0, Tryr50_1, TryF51_eq, Tryd51, Tryr51_0, Tryr51_1, e, outR, resK, tupR]
theorem idxB_neg (c : Nat) : ∀ s : List Nat, idxB c s < 0 ↔ c ∉ s
  | [] => by simp [idxB]
  | d :: s => by
    have ih := idxB_neg c s
    simp only [idxB]
    cases hb : Nat.beq d c with
    | true => have := Nat.eq_of_beq_eq_true hb; subst this; simp
    | false =>
      have hd : ¬ c = d := fun e => by rw [e, Nat.beq_refl] at hb; cases hb
      simp only [List.mem_cons, not_or, hd, not_false_eq_true, true_and, ← ih]
      cases idxB c s with
      | ofNat n => simp only [Int.ofNat_eq_natCast]; omega
      | negSucc n => simp only []; omega
def wag (w : Wd) (vk : V) : V := .agg (.cons (.int .i64 w.kind) (.cons (.str w.text) (.cons vk .nil)))
def WordQ (b : Nat) (texts lits : List (List Nat)) (n : Nat) (h : Hp) (i : Pos) (st : St) (r : V) (h' : Hp) : Prop :=
  Ch (fun j => j = i) h h' ∧ ((wordM n st = none ∧ ∃ k t ks, r = two (wag ⟨k, t, .nil⟩ ks) (.bool false) ∧ notTuple ks = true ∧ ks.cells = [ks]) ∨
    ∃ w st' vk, wordM n st = some (w, st') ∧ r = two (wag w vk) (.bool true) ∧ PSt b texts lits h' i st' ∧ WRow (fun j => h.next.nat ≤ j.nat) h' vk w.kids)
def WordsQ (b : Nat) (texts lits : List (List Nat)) (n : Nat) (h : Hp) (i : Pos) (st : St) (r : V) (h' : Hp) : Prop :=
  Ch (fun j => j = i) h h' ∧ ((loopW (wordM n) (St.size st + 1) st = none ∧ r = two .nils (.bool false)) ∨
    ∃ ws st' v, loopW (wordM n) (St.size st + 1) st = some (ws, st') ∧ r = two v (.bool true) ∧ PSt b texts lits h' i st' ∧ WRow (fun j => h.next.nat ≤ j.nat) h' v ws)
def WordOk (b : Nat) (texts lits : List (List Nat)) (n : Nat) (W : Fun) (deep : Int) : Prop := ∀ h i st, PSt b texts lits h i st → St.size st < 1000000000 → ∃ r h', W [.ptr i 0, .int .i64 deep] h = .ok r h' ∧ WordQ b texts lits n h i st r h'
theorem words_ok {b : Nat} {texts lits : List (List Nat)} {n : Nat} {W : Fun} {deep : Int} (hW : WordOk b texts lits n W deep) {h : Hp} {i : Pos} {st : St} (p : PSt b texts lits h i st) (hsz : St.size st < 1000000000) :
    ∃ r h', TryF36 W [.ptr i 0, .int .i64 deep] h = .ok r h' ∧ WordsQ b texts lits n h i st r h' := by
  rw [TryF36_eq]
  show Tells Tryz.prog _ (WordsQ b texts lits n h i st) _
  simp only [vmL, Nat.reduceEqDiff, reduceCtorEq, ↓reduceIte, vpL, vsL, vqL, Tryd36, Tryr36_0, Tryr36_1]
  rw [← thenO_id (blkX 0 _)]
  refine Oc.then (loop_rule (n := St.size st) (fun m fr g => ∃ v acc cur, fr.get (Pos.of 0) = some (.ptr i 0) ∧ fr.get (Pos.of 1) = some (.int .i64 deep) ∧ fr.get (Pos.of 6) = some v ∧ St.size cur = m ∧ St.size cur ≤ St.size st ∧ acc.len + St.size cur ≤ St.size st ∧
      PSt b texts lits g i cur ∧ Ch (fun j => j = i) h g ∧ (∃ cs, Ow 0 g tW 3 v acc.len cs ∧ (∀ j, idOf v = some j → h.next.nat ≤ j.nat) ∧ WAt (fun j => h.next.nat ≤ j.nat ∧ idOf v ≠ some j) g acc cs) ∧
      loopW (wordM n) (St.size st + 1) st = (loopW (wordM n) (St.size cur + 1) cur).map fun q => (acc.app q.1, q.2))
    (A := fun fr g => False) (B := fun fr g => ∃ x y, fr.get (Pos.of 4) = some x ∧ fr.get (Pos.of 5) = some y ∧ WordsQ b texts lits n h i st (two x y) g) (by rw [lf_eq]; omega) ?_ ?_) ?_ ?_
  · refine ⟨.nils, .nil, st, by simp only [vmL, Nat.reduceEqDiff, reduceCtorEq, ↓reduceIte, vpL, vsL, vqL], by simp only [vmL, Nat.reduceEqDiff, reduceCtorEq, ↓reduceIte, vpL, vsL, vqL], by simp only [vmL, Nat.reduceEqDiff, reduceCtorEq, ↓reduceIte, vpL, vsL, vqL], rfl, Nat.le_refl _, by simp [Wds.len], p, Ch.refl _ _, ⟨[], Ow.nil _ _ _ _, fun j hj => (by cases hj), rfl⟩, ?_⟩
    cases loopW (wordM n) (St.size st + 1) st <;> rfl
  · rintro m fr g ⟨v, acc, cur, f0, f1, f6, rfl, hcs, hal, pg, chg, ⟨cs, ov, iv, wa⟩, hq⟩
    have hbn : i.nat < h.next.nat := p.lt
    obtain ⟨r, g1, hw, c1, hr⟩ := hW g i cur pg (by omega)
    have ch1 := chg.trans c1 fun j _ q => q
    obtain ⟨L, hL⟩ : ∃ L, L = loopW (wordM n) (St.size st + 1) st := ⟨_, rfl⟩
    rw [← hL, loopW] at hq
    rw [hL] at hq
    rcases hr with ⟨hn, k, t, ks, rfl, hk1, hk2⟩ | ⟨w, st1, vk, hm, rfl, p1, wk⟩
    · rw [hn] at hq
      have s1 : oStore 3 (.ptr g1.next 0) (wag ⟨k, t, .nil⟩ ks) (g1.new (.cells (.rw tW true) [.int .i64 0, .str [], .nils])) = .ok V.undef ((g1.new (.cells (.rw tW true) [.int .i64 0, .str [], .nils])).put g1.next (some (.cells (.rw tW true) [.int .i64 k, .str t, ks]))) := st3_get (new_self _ _)
      simp only [vmL, Nat.reduceEqDiff, reduceCtorEq, ↓reduceIte, vpL, vsL, vqL, Tryb36_2, Tryr36_2, Tryr36_3, Tryr36_4, f0, f1, hw, two, oNew_w, s1]
      refine ⟨.nils, .bool false, by simp only [vmL, Nat.reduceEqDiff, reduceCtorEq, ↓reduceIte, vpL, vsL, vqL], by simp only [vmL, Nat.reduceEqDiff, reduceCtorEq, ↓reduceIte, vpL, vsL, vqL], ?_, .inl ⟨hq, rfl⟩⟩
      exact (ch1.trans (Ch.new (fun _ => False) g1 _) fun j _ q => q.elim).trans (Ch.put (S := fun j => j = g1.next) _ _ rfl) fun j hj q => by have := ch1.next; rw [q] at hj; omega
    · rw [hm] at hq
      simp only [] at hq
      have s1 : oStore 3 (.ptr g1.next 0) (wag w vk) (g1.new (.cells (.rw tW true) [.int .i64 0, .str [], .nils])) = .ok V.undef ((g1.new (.cells (.rw tW true) [.int .i64 0, .str [], .nils])).put g1.next (some (.cells (.rw tW true) [.int .i64 w.kind, .str w.text, vk]))) := st3_get (new_self _ _)
      have c2 : Ch (fun _ => False) g1 ((g1.new (.cells (.rw tW true) [.int .i64 0, .str [], .nils])).put g1.next (some (.cells (.rw tW true) [.int .i64 w.kind, .str w.text, vk]))) :=
        (Ch.new (fun _ => False) g1 _).trans (Ch.put (S := fun j => j = g1.next) _ _ rfl) fun j hj q => by rw [q] at hj; omega
      have s2 : ((g1.new (.cells (.rw tW true) [.int .i64 0, .str [], .nils])).put g1.next (some (.cells (.rw tW true) [.int .i64 w.kind, .str w.text, vk]))).get g1.next = some (.cells (.rw tW true) [.int .i64 w.kind, .str w.text, vk]) := put_self _ _ _
      generalize (g1.new (.cells (.rw tW true) [.int .i64 0, .str [], .nils])).put g1.next (some (.cells (.rw tW true) [.int .i64 w.kind, .str w.text, vk])) = g3 at s1 c2 s2
      have s3 := ldN3_get s2
      have ov1 : Ow 0 g1 tW 3 v acc.len cs := ov.ch c1 fun j hj q => by have := iv j hj; rw [q] at this; omega
      have ov3 : Ow 0 g3 tW 3 v acc.len cs := ov1.ch c2 fun _ _ q => q
      obtain ⟨v', g4, a1, a2, a3, a4, a5⟩ := app1_ok (bt := 48) (new := [V.int .i64 w.kind, V.str w.text, vk]) ov3 rfl (by omega)
      have c3 := c2.next
      have c1n := c1.next
      have chn := chg.next
      have wkl := wk
      obtain ⟨ck, ok1, ik1, wk1⟩ := wk
      have c13 := ch1.trans c2 fun j _ q => q.elim
      have ch4 : Ch (fun j => j = i) h g4 := c13.trans a4 fun j hj q => by have := iv j q; omega
      have p4 : PSt b texts lits g4 i st1 := (p1.ch c2 fun _ q => q.elim).ch a4 fun j hj => by have := iv j hj; omega
      have c14 : Ch (fun j => idOf v = some j) g1 g4 := (c2.mono (S' := fun j => idOf v = some j) fun _ _ q => q.elim).trans a4 fun _ _ q => q
      have iv' : ∀ j, idOf v' = some j → j.nat = g3.next.nat + 1 := fun j hj => by rw [a2] at hj; cases hj; rw [Pos.nat_succ]
      have wa4 : WAt (fun j => h.next.nat ≤ j.nat ∧ idOf v' ≠ some j) g4 acc cs := (wa.ch c1 (P' := fun j => h.next.nat ≤ j.nat ∧ idOf v ≠ some j) fun j hj q => ⟨q, fun e => by rw [e] at q; omega⟩).ch c14 fun j hj q => ⟨⟨q.1, fun e => by have := iv' j e; omega⟩, q.2⟩
      have hvg : ∀ j, idOf v = some j → j.nat < g.next.nat := fun j hj => (ov.idlt hj).2
      have wk4 : WRow (fun j => g.next.nat ≤ j.nat ∧ j.nat < g1.next.nat) g4 vk w.kids := by
        refine ⟨ck, ok1.ch c14 fun j hj e => ?_, fun j hj => ⟨ik1 j hj, (ok1.idlt hj).2⟩, wk1.ch c14 fun j hj q => ⟨⟨q, hj⟩, fun e => ?_⟩⟩
        · have := hvg j e; have := ik1 j hj; omega
        · have := hvg j e; omega
      obtain ⟨ck4, ok4, ik4, wk5⟩ := wk4
      have wn : WAt (fun j => h.next.nat ≤ j.nat ∧ idOf v' ≠ some j) g4 (acc.app (.cons w.kind w.text w.kids .nil)) (cs ++ [V.int .i64 w.kind, V.str w.text, vk]) :=
        WAt.app (b := .cons w.kind w.text w.kids .nil) (cb := [V.int .i64 w.kind, V.str w.text, vk]) ⟨vk, ck4, [], rfl, ok4, fun j hj => ⟨by have := ik4 j hj; omega, fun e => by have := iv' j e; have := ik4 j hj; omega⟩, wk5.ch (Ch.refl (fun _ => False) _) (fun j _ q => ⟨⟨by omega, fun e => by have := iv' j e; omega⟩, fun e => e⟩), rfl⟩ wa4
      have sz1 := wordM_size hm
      have hlen : (acc.app (.cons w.kind w.text w.kids .nil)).len = acc.len + 1 := by rw [Wds.len_app]; rfl
      rcases next_ok p4 32 with ⟨hx, e45⟩ | ⟨st2, g5, hx, e45, p5, c5, n5⟩
      · rw [hx] at hq
        simp only [vmL, Nat.reduceEqDiff, reduceCtorEq, ↓reduceIte, vpL, vsL, vqL, Tryb36_2, Tryr36_2, Tryr36_3, Tryr36_5, Tryr36_6, Tryr36_7, f0, f1, f6, hw, two, oNew_w, s1, s3, oBuildSlice_3, a1, show TryF45 [.ptr i 0, .int .u8 32] g4 = .ok (.bool false) g4 from e45]
        refine ⟨v', .bool true, by simp only [vmL, Nat.reduceEqDiff, reduceCtorEq, ↓reduceIte, vpL, vsL, vqL], by simp only [vmL, Nat.reduceEqDiff, reduceCtorEq, ↓reduceIte, vpL, vsL, vqL], ch4, .inr ⟨_, st1, v', hq, rfl, p4, _, by rw [hlen]; exact a3, fun j hj => ?_, wn.ch (Ch.refl (fun _ => False) _) fun j _ q => ⟨q.1, fun e => e⟩⟩⟩
        have := iv' j hj; omega
      · rw [hx] at hq
        have sz2 := nextM_size hx
        have e45' : TryF45 [.ptr i 0, .int .u8 32] g4 = .ok (.bool true) g5 := e45
        simp only [vmL, Nat.reduceEqDiff, reduceCtorEq, ↓reduceIte, vpL, vsL, vqL, Tryb36_2, Tryr36_2, Tryr36_3, Tryr36_5, Tryr36_6, Tryr36_7, f0, f1, f6, hw, two, oNew_w, s1, s3, oBuildSlice_3, a1, e45']
        have a3' : Ow 0 g5 tW 3 v' (acc.len + 1) (cs ++ [V.int .i64 w.kind, V.str w.text, vk]) := a3.ch c5 fun j hj q => by have := iv' j hj; rw [q] at this; omega
        refine ⟨St.size st2, by omega, v', acc.app (.cons w.kind w.text w.kids .nil), st2, by simp only [vmL, Nat.reduceEqDiff, reduceCtorEq, ↓reduceIte, vpL, vsL, vqL, f0], by simp only [vmL, Nat.reduceEqDiff, reduceCtorEq, ↓reduceIte, vpL, vsL, vqL, f1], by simp only [vmL, Nat.reduceEqDiff, reduceCtorEq, ↓reduceIte, vpL, vsL, vqL], rfl, by omega, by omega, p5, ch4.trans c5 fun _ _ q => q, ⟨_, by rw [hlen]; exact a3', fun j hj => ?_, wn.ch c5 fun j hj q => ⟨q, fun e => ?_⟩⟩, ?_⟩
        · have := iv' j hj; omega
        · rw [e] at q; omega
        · rw [hq]
          simp only []
          rw [loopW_fuel (word := wordM n) (fun _ _ _ h => wordM_size h) (f := St.size cur) (g := St.size st2 + 1) (by omega) (by omega)]
          cases loopW (wordM n) (St.size st2 + 1) st2 with
          | none => rfl
          | some q => simp only [Option.map_some, Wds.app_assoc, Wds.app]
  · rintro fr g hf; exact hf.elim
  · rintro fr g ⟨x, y, f4, f5, hQ⟩
    exact Tells.ret (by simp only [resK, f4, f5, tupR]; rfl) hQ
end Go.Proofs.Im
