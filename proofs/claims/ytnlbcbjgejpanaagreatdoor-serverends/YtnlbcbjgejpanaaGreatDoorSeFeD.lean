/- Part of the value machine, or of a walk by it: lemmas that the claim's last text uses. No conditions. -/
import Derived.Test.YtnlbcbjgejpanaaGreatDoorSeVmO
import Derived.Test.YtnlbcbjgejpanaaGreatDoorChecked
import Derived.KernelRfl
import Derived.Test.YtnlbcbjgejpanaaGreatDoorSeFeC
set_option linter.unusedVariables false
set_option linter.unusedSimpArgs false
set_option linter.unnecessarySimpa false
noncomputable section
namespace Go.Vm
variable {h : Hp}
theorem eqV_cons (a b : V) (ha : eqV a a = true) (hb : eqV b b = true) : eqV (.cons a b) (.cons a b) = true := by
  show (match eqV a a with | true => eqV b b | false => false) = true
  rw [ha]; exact hb
theorem eqV_str (s : List Nat) : eqV (.str s) (.str s) = true := by
  show strEq s s = true
  rw [strEq_dec]; simp
theorem eqV_own {b sz n : Nat} {el : TypeId} {v : V} {cs : List V} (o : Ow b h el sz v n cs) : eqV v v = true := by
  rcases o.is with ⟨_, rfl⟩ | ⟨i, rfl, _⟩
  · rfl
  · show (match i.eq i, Nat.beq 0 0, Nat.beq n n with
        | true, true, true => Nat.beq sz sz
        | _, _, _ => false) = true
    rw [Pos.eq_self, Nat.beq_refl, Nat.beq_refl, Nat.beq_refl]
end Go.Vm
namespace Go.Proofs.Im
open Go Go.Proofs Go.Vm Go.Ln
set_option linter.unusedVariables false
set_option maxRecDepth 100000
set_option linter.unusedSimpArgs false
theorem dLoad43 (x : V) (h : Hp) : dLoad Tryz.prog tW x h = oLoadN 3 x h := by kernel_rfl
theorem eqV_wag {b sz n : Nat} {el : TypeId} {h : Hp} {w : Wd} {v : V} {cs : List V} (o : Ow b h el sz v n cs) : eqV (wag w v) (wag w v) = true :=
  eqV_cons (.int .i64 w.kind) (.cons (.str w.text) (.cons v .nil)) (eqV_int _ _) (eqV_cons (.str w.text) (.cons v .nil) (eqV_str _) (eqV_cons v .nil (eqV_own o) rfl))
theorem Tells.imp {P : Program} {rs : List ResultVar} {Q Q' : V → Hp → Prop} {o : Out} (t : Tells P rs Q o) (hq : ∀ r h, Q r h → Q' r h) : Tells P rs Q' o := by
  obtain ⟨r, h, e, q⟩ := t; exact ⟨r, h, e, hq r h q⟩
theorem PSt.litgo {b : Nat} {texts lits : List (List Nat)} {h : Hp} {i : Pos} {l t : List Nat} {r : List (List Nat × List Nat)} (p : PSt b texts lits h i ⟨[], (l, t) :: r⟩) :
    ∃ (vl : V) (j : Pos) (q piece : Nat), oLoad1 (.ptr i 1) h = .ok vl h ∧ oLoad1 (.ptr i 2) h = .ok (.int .i64 (piece : Int)) h ∧ (∀ h', oIdxS 1 vl (.int .i64 (piece : Int)) h' = .ok (.ptr j q) h') ∧ oLoad1 (.ptr j q) h = .ok (.str l) h ∧ piece + 1 < 1000000000 ∧
      ∀ g, Ch (fun _ => False) h g → ∃ g1 g2, oLoad1 (.ptr i 2) g = .ok (.int .i64 (piece : Int)) g ∧ oStore 1 (.ptr i 2) (.int .i64 ((piece : Int) + 1)) g = .ok V.undef g1 ∧ oStore 1 (.ptr i 3) (.int .i64 0) g1 = .ok V.undef g2 ∧ PSt b texts lits g2 i ⟨t, r⟩ ∧ Ch (fun j => j = i) g g2 := by
  obtain ⟨vt, vl, piece, pos, t0, hg, ht, hl, hn, hp, hpos, hc, hr⟩ := p.is
  have hr' : (l, t) :: r = (lits.drop piece).zip (texts.drop (piece + 1)) := hr
  have hpl : piece < lits.length := by
    have := congrArg List.length hr'
    rw [List.length_zip, List.length_drop, List.length_drop, List.length_cons] at this
    omega
  have hpt : piece + 1 < texts.length := by omega
  rw [List.drop_eq_getElem_cons hpl, List.drop_eq_getElem_cons hpt, List.zip_cons_cons] at hr'
  injection hr' with h1 h2
  injection h1 with h3 h4
  obtain ⟨j, q, x, hx, e1, -, e2⟩ := hl.at1 hpl
  rw [txs_get, List.getElem?_eq_getElem hpl, ← h3] at hx
  cases hx
  refine ⟨vl, j, q, piece, ld_get hg 1, ld_get hg 2, e1, e2 h rfl, by have := p.small.1; omega, fun g c => ?_⟩
  have hgg : g.get i = some (.cells (.rw tP true) [vt, vl, .int .i64 (piece : Int), .int .i64 (pos : Int)]) := by rw [c.get i p.lt fun q => q]; exact hg
  have hb : b ≤ h.next.nat := Nat.le_trans p.ge (Nat.le_of_lt p.lt)
  have c2 : Ch (fun j => j = i) g ((g.put i (some (.cells (.rw tP true) [vt, vl, .int .i64 ((piece : Int) + 1), .int .i64 (pos : Int)]))).put i (some (.cells (.rw tP true) [vt, vl, .int .i64 ((piece : Int) + 1), .int .i64 0]))) := (Ch.put (S := fun j => j = i) g _ rfl).trans (Ch.put (S := fun j => j = i) _ _ rfl) fun _ _ q => q
  have c3 : Ch (fun j => j = i) h ((g.put i (some (.cells (.rw tP true) [vt, vl, .int .i64 ((piece : Int) + 1), .int .i64 (pos : Int)]))).put i (some (.cells (.rw tP true) [vt, vl, .int .i64 ((piece : Int) + 1), .int .i64 0]))) := (c.mono (S' := fun j => j = i) fun _ _ q => q.elim).trans c2 fun _ _ q => q
  refine ⟨_, _, ld_get hgg 2, st_get hgg ⟨rfl, rfl⟩ (by simp), st_get (put_self _ _ _) ⟨rfl, rfl⟩ (by simp), ⟨p.ge, Nat.lt_of_lt_of_le p.lt c3.next, ⟨vt, vl, piece + 1, 0, t, put_self _ _ _, ht.ch c3 hb ?_, hl.ch c3 hb ?_, hn, ?_, Nat.zero_le _, rfl, ?_⟩, p.small⟩, c2⟩
  · rintro j hj rfl; have := ht.idlt hj; have := p.ge; omega
  · rintro j hj rfl; have := hl.idlt hj; have := p.ge; omega
  · rw [List.getElem?_eq_getElem hpt, h4]
  · exact h2
def AtomQ (b : Nat) (texts lits : List (List Nat)) (g : Hp) (i ir : Pos) (st : St) (r : V) (g' : Hp) : Prop :=
  Ch (fun j => j = i ∨ j = ir) g g' ∧ r = two (wag ⟨1, st.cur.takeWhile atomC, .nil⟩ .nils) (.bool (decide (((st.cur.takeWhile atomC).length : Int) > 0))) ∧ PSt b texts lits g' i { st with cur := st.cur.dropWhile atomC }
theorem atomC_iff (c : Nat) : atomC c = true ↔ (c : Int) ≥ 33 ∧ (c : Int) ≤ 126 ∧ idxB c [40, 41, 34, 123] < 0 := by
  rw [idxB_neg]
  simp only [atomC, decide_eq_true_eq, List.mem_cons, List.not_mem_nil, or_false, not_or]
  omega
theorem takeWhile_len {p : Nat → Bool} {l : List Nat} {k : Nat} (hk : k ≤ l.length) (h1 : ∀ c ∈ l.take k, p c = true) (h2 : ∀ c, l[k]? = some c → p c = false) : l.takeWhile p = l.take k ∧ l.dropWhile p = l.drop k := by
  induction l generalizing k with
  | nil => have : k = 0 := by simpa using hk
           subst this; simp
  | cons a l ih =>
    cases k with
    | zero => have := h2 a (by simp); simp [this]
    | succ k =>
      have ha : p a = true := h1 a (by simp)
      obtain ⟨e1, e2⟩ := ih (k := k) (by simpa using hk) (fun c hc => h1 c (by simp [hc])) (fun c hc => h2 c (by simpa using hc))
      simp [ha, e1, e2]
theorem atom_ok {b : Nat} {texts lits : List (List Nat)} {g : Hp} {i ir : Pos} {st : St} (V36 : Fun) (p : PSt b texts lits g i st) {fr : F} (f0 : fr.get (Pos.of 0) = some (.ptr i 0)) (f4 : fr.get (Pos.of 4) = some (.ptr ir 0)) {x y z : V} (hr : g.get ir = some (.cells (.rw tW true) [x, y, z])) (hir : i.nat < ir.nat) (hlt : ir.nat < g.next.nat) :
    Tells Tryz.prog [.cell 4 tW, .tmp 5] (AtomQ b texts lits g i ir st) (thenO (Tryr44_18 V36 fr g) (seqO (Tryr44_19 V36) (seqO (blkO 1 (loopO (Tryb44_20 V36) lf)) (seqO (Tryr44_22 V36) (seqO (Tryr44_23 V36) Out.ret))))) := by
  have hcs := p.cur_small
  simp only [vmL, Nat.reduceEqDiff, reduceCtorEq, ↓reduceIte, vpL, vsL, vqL, Tryr44_18, Tryr44_19, f0, rest_ok p]
  refine Oc.then (loop_rule (n := st.cur.length) (fun m fr g' => ∃ k : Nat, fr.get (Pos.of 0) = some (.ptr i 0) ∧ fr.get (Pos.of 4) = some (.ptr ir 0) ∧ fr.get (Pos.of 12) = some (.str st.cur) ∧ fr.get (Pos.of 13) = some (.int .i64 (k : Int)) ∧ k + m = st.cur.length ∧ (∀ c ∈ st.cur.take k, atomC c = true) ∧ g' = g)
    (A := fun fr g' => ∃ k : Nat, fr.get (Pos.of 0) = some (.ptr i 0) ∧ fr.get (Pos.of 4) = some (.ptr ir 0) ∧ fr.get (Pos.of 12) = some (.str st.cur) ∧ fr.get (Pos.of 13) = some (.int .i64 (k : Int)) ∧ k ≤ st.cur.length ∧ (∀ c ∈ st.cur.take k, atomC c = true) ∧ (∀ c, st.cur[k]? = some c → atomC c = false) ∧ g' = g) (B := fun _ _ => False) (by rw [lf_eq]; omega) ?_ ?_) ?_ ?_
  · exact ⟨0, by simp only [vmL, Nat.reduceEqDiff, reduceCtorEq, ↓reduceIte, vpL, vsL, vqL, f0], by simp only [vmL, Nat.reduceEqDiff, reduceCtorEq, ↓reduceIte, vpL, vsL, vqL, f4], by simp only [vmL, Nat.reduceEqDiff, reduceCtorEq, ↓reduceIte, vpL, vsL, vqL], by simp only [vmL, Nat.reduceEqDiff, reduceCtorEq, ↓reduceIte, vpL, vsL, vqL]; rfl, by omega, fun c hc => by simp at hc, rfl⟩
  · rintro m fr g' ⟨k, f0, f4, f12, f13, hk, hall, rfl⟩
    by_cases hlt : k < st.cur.length
    · obtain ⟨c, hc⟩ : ∃ c, st.cur[k]? = some c := ⟨_, List.getElem?_eq_getElem hlt⟩
      have hc256 := hcs.2 c (List.mem_of_getElem? hc)
      have ix : ∀ h, oIdxStr (.str st.cur) (.int .i64 (k : Int)) h = .ok (.int .u8 (c : Int)) h := fun h => oIdxStr_ok hc
      have hlt' : (k : Int) < (st.cur.length : Int) := by omega
      have hiff := atomC_iff c
      by_cases ha : atomC c = true
      · obtain ⟨h1, h2, h3⟩ := hiff.1 ha
        simp (disch := omega) only [vmL, Nat.reduceEqDiff, reduceCtorEq, ↓reduceIte, vpL, vsL, vqL, Tryb44_20, Tryr44_20, Tryr44_21, f12, f13, hlt', ix, h1, h2, idx_ok hc256, h3]
        refine ⟨m - 1, by omega, k + 1, by simp only [vmL, Nat.reduceEqDiff, reduceCtorEq, ↓reduceIte, vpL, vsL, vqL, f0], by simp only [vmL, Nat.reduceEqDiff, reduceCtorEq, ↓reduceIte, vpL, vsL, vqL, f4], by simp only [vmL, Nat.reduceEqDiff, reduceCtorEq, ↓reduceIte, vpL, vsL, vqL, f12], by simp only [vmL, Nat.reduceEqDiff, reduceCtorEq, ↓reduceIte, vpL, vsL, vqL]; rfl, by omega, fun d hd => ?_, rfl⟩
        rw [List.take_add_one, hc] at hd
        rcases List.mem_append.1 hd with hd | hd
        · exact hall d hd
        · simp at hd; rw [hd]; exact ha
      · have hno : ∀ d, st.cur[k]? = some d → atomC d = false := fun d hd => by rw [hc] at hd; cases hd; simpa using ha
        by_cases h1 : (c : Int) ≥ 33
        · by_cases h2 : (c : Int) ≤ 126
          · have h3 : ¬ idxB c [40, 41, 34, 123] < 0 := fun h3 => ha (hiff.2 ⟨h1, h2, h3⟩)
            simp (disch := omega) only [vmL, Nat.reduceEqDiff, reduceCtorEq, ↓reduceIte, vpL, vsL, vqL, Tryb44_20, Tryr44_20, Tryr44_21, f12, f13, hlt', ix, h1, h2, idx_ok hc256, h3]
            exact ⟨rfl, k, by simp only [vmL, Nat.reduceEqDiff, reduceCtorEq, ↓reduceIte, vpL, vsL, vqL, f0], by simp only [vmL, Nat.reduceEqDiff, reduceCtorEq, ↓reduceIte, vpL, vsL, vqL, f4], by simp only [vmL, Nat.reduceEqDiff, reduceCtorEq, ↓reduceIte, vpL, vsL, vqL, f12], by simp only [vmL, Nat.reduceEqDiff, reduceCtorEq, ↓reduceIte, vpL, vsL, vqL, f13], by omega, hall, hno, rfl⟩
          · simp (disch := omega) only [vmL, Nat.reduceEqDiff, reduceCtorEq, ↓reduceIte, vpL, vsL, vqL, Tryb44_20, Tryr44_20, Tryr44_21, f12, f13, hlt', ix, h1, h2]
            exact ⟨rfl, k, by simp only [vmL, Nat.reduceEqDiff, reduceCtorEq, ↓reduceIte, vpL, vsL, vqL, f0], by simp only [vmL, Nat.reduceEqDiff, reduceCtorEq, ↓reduceIte, vpL, vsL, vqL, f4], by simp only [vmL, Nat.reduceEqDiff, reduceCtorEq, ↓reduceIte, vpL, vsL, vqL, f12], by simp only [vmL, Nat.reduceEqDiff, reduceCtorEq, ↓reduceIte, vpL, vsL, vqL, f13], by omega, hall, hno, rfl⟩
        · simp (disch := omega) only [vmL, Nat.reduceEqDiff, reduceCtorEq, ↓reduceIte, vpL, vsL, vqL, Tryb44_20, Tryr44_20, Tryr44_21, f12, f13, hlt', ix, h1]
          exact ⟨rfl, k, by simp only [vmL, Nat.reduceEqDiff, reduceCtorEq, ↓reduceIte, vpL, vsL, vqL, f0], by simp only [vmL, Nat.reduceEqDiff, reduceCtorEq, ↓reduceIte, vpL, vsL, vqL, f4], by simp only [vmL, Nat.reduceEqDiff, reduceCtorEq, ↓reduceIte, vpL, vsL, vqL, f12], by simp only [vmL, Nat.reduceEqDiff, reduceCtorEq, ↓reduceIte, vpL, vsL, vqL, f13], by omega, hall, hno, rfl⟩
    · have hlt' : ¬ (k : Int) < (st.cur.length : Int) := by omega
      simp (disch := omega) only [vmL, Nat.reduceEqDiff, reduceCtorEq, ↓reduceIte, vpL, vsL, vqL, Tryb44_20, Tryr44_20, Tryr44_21, f12, f13, hlt']
      exact ⟨rfl, k, by simp only [vmL, Nat.reduceEqDiff, reduceCtorEq, ↓reduceIte, vpL, vsL, vqL, f0], by simp only [vmL, Nat.reduceEqDiff, reduceCtorEq, ↓reduceIte, vpL, vsL, vqL, f4], by simp only [vmL, Nat.reduceEqDiff, reduceCtorEq, ↓reduceIte, vpL, vsL, vqL, f12], by simp only [vmL, Nat.reduceEqDiff, reduceCtorEq, ↓reduceIte, vpL, vsL, vqL, f13], by omega, hall, fun d hd => (by rw [List.getElem?_eq_none (by omega)] at hd; cases hd), rfl⟩
  · rintro fr g' ⟨k, f0, f4, f12, f13, hk, hall, hno, rfl⟩
    obtain ⟨t1, t2⟩ := takeWhile_len hk hall hno
    obtain ⟨a, g1, l1, l2, l3, l4, p1, c1, n1⟩ := p.go k hk
    have hr1 : g1.get ir = some (.cells (.rw tW true) [x, y, z]) := by rw [c1.get ir hlt fun e => by rw [e] at hir; omega]; exact hr
    have s1 := st3_get (a := V.int .i64 1) (b := V.str (st.cur.take k)) (c := V.nils) hr1
    have lk : ((st.cur.take k).length : Int) = (k : Int) := by rw [List.length_take]; omega
    have c2 : Ch (fun j => j = i ∨ j = ir) g' (g1.put ir (some (.cells (.rw tW true) [V.int .i64 1, V.str (st.cur.take k), V.nils]))) := (c1.mono fun _ _ q => .inl q).trans (Ch.put (S := fun j => j = ir) _ _ rfl) fun _ _ q => .inr q
    simp (disch := omega) only [vmL, Nat.reduceEqDiff, reduceCtorEq, ↓reduceIte, vpL, vsL, vqL, Tryr44_22, Tryr44_23, f0, f4, f12, f13, l1, l4, oSliceStr_to hk, oBuild_w2, s1]
    refine Tells.ret (by simp only [resK, vmL, Nat.reduceEqDiff, reduceCtorEq, ↓reduceIte, vpL, vsL, vqL, f4, dLoad43, ldN3_get (put_self _ _ _), tupR]; rfl) ⟨c2, by rw [t1, lk]; rfl, ?_⟩
    rw [t2]
    exact p1.ch (Ch.put (S := fun j => j = ir) _ _ rfl) fun j hj => by rw [hj]; exact hir
  · intro _ _ hf; exact hf.elim
end Go.Proofs.Im

noncomputable section
namespace Go.Proofs.Im
open Go Go.Proofs Go.Vm Go.Ln
set_option linter.unusedVariables false
set_option maxRecDepth 100000
set_option linter.unusedSimpArgs false
def WordsOk (b : Nat) (texts lits : List (List Nat)) (n : Nat) (W : Fun) (deep : Int) : Prop := ∀ h i st, PSt b texts lits h i st → St.size st < 1000000000 → ∃ r h', W [.ptr i 0, .int .i64 deep] h = .ok r h' ∧ WordsQ b texts lits n h i st r h'
theorem wordM_nil (n : Nat) : wordM n ⟨[], []⟩ = none := by rw [wordM.eq_def]
theorem wordM_lit (n : Nat) (l t : List Nat) (r : List (List Nat × List Nat)) : wordM n ⟨[], (l, t) :: r⟩ = some (⟨2, l, .nil⟩, ⟨t, r⟩) := by rw [wordM.eq_def]
theorem wordM_quote (n : Nat) (s : List Nat) (r : List (List Nat × List Nat)) : wordM n ⟨34 :: s, r⟩ = (quotedM s).map fun p => (⟨2, p.1, .nil⟩, ⟨p.2, r⟩) := by
  rw [wordM.eq_def]
  simp only [if_true]
  cases quotedM s <;> rfl
theorem wordM_atom (n : Nat) (c : Nat) (s : List Nat) (r : List (List Nat × List Nat)) (h1 : c ≠ 34) (h2 : c ≠ 40) : wordM n ⟨c :: s, r⟩ = if atomC c then some (⟨1, (c :: s).takeWhile atomC, .nil⟩, ⟨(c :: s).dropWhile atomC, r⟩) else none := by
  rw [wordM.eq_def]
  simp only [h1, h2, if_false]
theorem wordM_list0 (s : List Nat) (r : List (List Nat × List Nat)) : wordM 0 ⟨40 :: s, r⟩ = none := by
  rw [wordM.eq_def]
  simp
theorem wordM_list (n : Nat) (s : List Nat) (r : List (List Nat × List Nat)) : wordM (n + 1) ⟨40 :: s, r⟩ = match nextM 41 ⟨s, r⟩ with
        | some st => some (⟨3, [], .nil⟩, st)
        | none => (match loopW (wordM n) (St.size ⟨s, r⟩ + 1) ⟨s, r⟩ with
          | some (ws, st) => (match nextM 41 st with | some st' => some (⟨3, [], ws⟩, st') | none => none)
          | none => none) := by
  rw [wordM.eq_def]
  simp <;> rfl
theorem nextM_self (c : Nat) (s : List Nat) (r : List (List Nat × List Nat)) : nextM c ⟨c :: s, r⟩ = some ⟨s, r⟩ := by simp [nextM]
theorem nextM_other (c d : Nat) (s : List Nat) (r : List (List Nat × List Nat)) (h : d ≠ c) : nextM c ⟨d :: s, r⟩ = none := by simp [nextM, h]
theorem nextM_nil (c : Nat) (r : List (List Nat × List Nat)) : nextM c ⟨[], r⟩ = none := by simp [nextM]
theorem next_no {b : Nat} {texts lits : List (List Nat)} {h : Hp} {i : Pos} {st : St} (p : PSt b texts lits h i st) {c : Nat} (e : nextM c st = none) : TryF45 [.ptr i 0, .int .u8 (c : Int)] h = .ok (.bool false) h := by
  rcases next_ok p c with ⟨_, h1⟩ | ⟨st', h', h1, _⟩
  · exact h1
  · rw [e] at h1; cases h1
theorem next_yes {b : Nat} {texts lits : List (List Nat)} {h : Hp} {i : Pos} {st st' : St} (p : PSt b texts lits h i st) {c : Nat} (e : nextM c st = some st') : ∃ h', TryF45 [.ptr i 0, .int .u8 (c : Int)] h = .ok (.bool true) h' ∧ PSt b texts lits h' i st' ∧ Ch (fun j => j = i) h h' ∧ h'.next = h.next := by
  rcases next_ok p c with ⟨h1, _⟩ | ⟨st'', h', h1, h2⟩
  · rw [e] at h1; cases h1
  · rw [e] at h1; cases h1; exact ⟨h', h2⟩
theorem word_lit {b : Nat} {texts lits : List (List Nat)} {n : Nat} {V36 : Fun} {deep : Int} {h : Hp} {i : Pos} {l t : List Nat} {r : List (List Nat × List Nat)} (p : PSt b texts lits h i ⟨[], (l, t) :: r⟩) :
    Tells Tryz.prog [.cell 4 tW, .tmp 5] (WordQ b texts lits n h i ⟨[], (l, t) :: r⟩) (Tryd44 V36 (T.set (some (.int .i64 deep)) (Pos.of 1) (T.set (some (.ptr i 0)) (Pos.of 0) T.nil)) h) := by
  obtain ⟨h0, e0⟩ : ∃ h0, h0 = h.new (.cells (.rw tW true) [.int .i64 0, .str [], .nils]) := ⟨_, rfl⟩
  have c0 : Ch (fun _ => False) h h0 := by rw [e0]; exact Ch.new _ _ _
  have r0 : h0.get h.next = some (.cells (.rw tW true) [.int .i64 0, .str [], .nils]) := by rw [e0]; exact new_self _ _
  have n0 : h0.next.nat = h.next.nat + 1 := by rw [e0]; exact new_next_nat _ _
  have p0 := p.ch c0 fun _ q => q.elim
  have hi := p.lt
  have hil : i ≠ h.next := fun e => by rw [e] at hi; omega
  -- what is told at the end, by the last store
  have last : ∀ {g : Hp} {w : Wd} {vk : V} {x y z : V} {S : Pos → Prop}, Ch S h0 g → (∀ j : Pos, S j → j = i ∨ j = h.next) → Ch (fun j => j = i) h (g.put h.next (some (.cells (.rw tW true) [.int .i64 w.kind, .str w.text, vk]))) := fun {g w vk x y z S} c hs =>
    ((c0.mono (S' := fun j => j = i) fun _ _ q => q.elim).trans c fun j hj q => by rcases hs j q with q | q; exact q; rw [q] at hj; omega).trans (Ch.put (S := fun j => j = h.next) _ _ rfl) fun j hj q => by rw [q] at hj; omega
  have hb : (([] : List Nat) = [] ∧ (l, t) :: r ≠ []) := ⟨rfl, by simp⟩
  have hlit : TryF48 [.ptr i 0] h0 = .ok (.bool true) h0 := by have := lit_ok p0; rwa [decide_eq_true hb] at this
  simp only [vmL, Nat.reduceEqDiff, reduceCtorEq, ↓reduceIte, vpL, vsL, vqL, Tryd44, Tryr44_0, oNew_w, ← e0, Tryr44_1, hlit]
  obtain ⟨vl, j, q, piece, l1, l2, ix, l3, hpc, lgo⟩ := p0.litgo
  obtain ⟨h1, e1⟩ : ∃ h1, h1 = h0.new (.cells (.rw tW true) [.int .i64 0, .str [], .nils]) := ⟨_, rfl⟩
  have c1 : Ch (fun _ => False) h0 h1 := by rw [e1]; exact Ch.new _ _ _
  have r1 : h1.get h0.next = some (.cells (.rw tW true) [.int .i64 0, .str [], .nils]) := by rw [e1]; exact new_self _ _
  have s1 := st3_get (a := V.int .i64 2) (b := V.str l) (c := V.nils) r1
  obtain ⟨h2, e2⟩ : ∃ h2, h2 = h1.put h0.next (some (.cells (.rw tW true) [V.int .i64 2, V.str l, V.nils])) := ⟨_, rfl⟩
  rw [← e2] at s1
  have c2 : Ch (fun _ => False) h0 h2 := by rw [e2]; exact c1.trans (Ch.put (S := fun j => j = h0.next) _ _ rfl) fun j hj q => by rw [q] at hj; omega
  have r2 : h2.get h0.next = some (.cells (.rw tW true) [V.int .i64 2, V.str l, V.nils]) := by rw [e2]; exact put_self _ _ _
  obtain ⟨h3, h4, m1, m2, m3, p4, c4⟩ := lgo h2 c2
  have n2 : h0.next.nat < h2.next.nat := by rw [e2, put_next, e1, new_next_nat]; omega
  have r4 : h4.get h0.next = some (.cells (.rw tW true) [V.int .i64 2, V.str l, V.nils]) := by rw [c4.get _ n2 fun e => by rw [← e] at hi; omega]; exact r2
  have c04 : Ch (fun j => j = i) h0 h4 := (c2.mono (S' := fun j => j = i) fun _ _ q => q.elim).trans c4 fun _ _ q => q
  have r4' : h4.get h.next = some (.cells (.rw tW true) [.int .i64 0, .str [], .nils]) := by rw [c04.get _ (by omega) fun e => hil e.symm]; exact r0
  have s4 := st3_get (a := V.int .i64 2) (b := V.str l) (c := V.nils) r4'
  simp (disch := omega) only [vmL, Nat.reduceEqDiff, reduceCtorEq, ↓reduceIte, vpL, vsL, vqL, Tryr44_2, Tryr44_3, Tryr44_4, Tryr44_5, ld_bump 1 _ _ l1, ld_bump 1 _ _ l2, ix, ld_bump 1 _ _ l3, oBuild_w2, aNew_w, ← e1, s1, m1, m2, m3, ldN3_get r4, s4]
  refine Tells.ret (by simp only [resK, vmL, Nat.reduceEqDiff, reduceCtorEq, ↓reduceIte, vpL, vsL, vqL, dLoad43, ldN3_get (put_self _ _ _), tupR]; rfl) ⟨last (w := ⟨2, l, .nil⟩) (x := V.nils) (y := V.nils) (z := V.nils) c04 fun j q => .inl q, .inr ⟨⟨2, l, .nil⟩, ⟨t, r⟩, .nils, wordM_lit _ _ _ _, rfl, ?_, WRow.nil _ _⟩⟩
  exact p4.ch (Ch.put (S := fun j => j = h.next) _ _ rfl) fun j hj => by rw [hj]; exact hi
theorem word_atom {b : Nat} {texts lits : List (List Nat)} {n : Nat} {V36 : Fun} {deep : Int} {h : Hp} {i : Pos} {st : St} (p : PSt b texts lits h i st) (hb : ¬ (st.cur = [] ∧ st.rest ≠ [])) (n34 : nextM 34 st = none) (n40 : nextM 40 st = none)
    (hw : wordM n st = if ((st.cur.takeWhile atomC).length : Int) > 0 then some (⟨1, st.cur.takeWhile atomC, .nil⟩, { st with cur := st.cur.dropWhile atomC }) else none) :
    Tells Tryz.prog [.cell 4 tW, .tmp 5] (WordQ b texts lits n h i st) (Tryd44 V36 (T.set (some (.int .i64 deep)) (Pos.of 1) (T.set (some (.ptr i 0)) (Pos.of 0) T.nil)) h) := by
  obtain ⟨h0, e0⟩ : ∃ h0, h0 = h.new (.cells (.rw tW true) [.int .i64 0, .str [], .nils]) := ⟨_, rfl⟩
  have c0 : Ch (fun _ => False) h h0 := by rw [e0]; exact Ch.new _ _ _
  have r0 : h0.get h.next = some (.cells (.rw tW true) [.int .i64 0, .str [], .nils]) := by rw [e0]; exact new_self _ _
  have n0 : h0.next.nat = h.next.nat + 1 := by rw [e0]; exact new_next_nat _ _
  have p0 := p.ch c0 fun _ q => q.elim
  have hi := p.lt
  have hil : i ≠ h.next := fun e => by rw [e] at hi; omega
  have hlit : TryF48 [.ptr i 0] h0 = .ok (.bool false) h0 := by have := lit_ok p0; rwa [decide_eq_false hb] at this
  have e34 : TryF45 [.ptr i 0, .int .u8 34] h0 = .ok (.bool false) h0 := next_no p0 n34
  have e40 : TryF45 [.ptr i 0, .int .u8 40] h0 = .ok (.bool false) h0 := next_no p0 n40
  simp only [vmL, Nat.reduceEqDiff, reduceCtorEq, ↓reduceIte, vpL, vsL, vqL, Tryd44, Tryr44_0, oNew_w, ← e0, Tryr44_1, hlit, Tryr44_6, e34, Tryr44_9, e40]
  refine Tells.imp (atom_ok V36 p0 (ir := h.next) (by simp only [vmL, Nat.reduceEqDiff, reduceCtorEq, ↓reduceIte, vpL, vsL, vqL]) (by simp only [vmL, Nat.reduceEqDiff, reduceCtorEq, ↓reduceIte, vpL, vsL, vqL]) r0 hi (by omega)) fun r g ⟨c, er, pg⟩ => ?_
  have cg : Ch (fun j => j = i) h g := (c0.mono (S' := fun j => j = i) fun _ _ q => q.elim).trans c fun j hj q => by
    rcases q with q | q
    · exact q
    · rw [q] at hj; omega
  by_cases hz : ((st.cur.takeWhile atomC).length : Int) > 0
  · rw [if_pos hz] at hw
    rw [decide_eq_true hz] at er
    exact ⟨cg, .inr ⟨_, _, _, hw, er, pg, WRow.nil _ _⟩⟩
  · rw [if_neg hz] at hw
    rw [decide_eq_false hz] at er
    exact ⟨cg, .inl ⟨hw, _, _, _, er, rfl, rfl⟩⟩
theorem word_quote {b : Nat} {texts lits : List (List Nat)} {n : Nat} {V36 : Fun} {deep : Int} {h : Hp} {i : Pos} {s : List Nat} {rest : List (List Nat × List Nat)} (p : PSt b texts lits h i ⟨34 :: s, rest⟩) :
    Tells Tryz.prog [.cell 4 tW, .tmp 5] (WordQ b texts lits n h i ⟨34 :: s, rest⟩) (Tryd44 V36 (T.set (some (.int .i64 deep)) (Pos.of 1) (T.set (some (.ptr i 0)) (Pos.of 0) T.nil)) h) := by
  obtain ⟨h0, e0⟩ : ∃ h0, h0 = h.new (.cells (.rw tW true) [.int .i64 0, .str [], .nils]) := ⟨_, rfl⟩
  have c0 : Ch (fun _ => False) h h0 := by rw [e0]; exact Ch.new _ _ _
  have r0 : h0.get h.next = some (.cells (.rw tW true) [.int .i64 0, .str [], .nils]) := by rw [e0]; exact new_self _ _
  have n0 : h0.next.nat = h.next.nat + 1 := by rw [e0]; exact new_next_nat _ _
  have p0 := p.ch c0 fun _ q => q.elim
  have hi := p.lt
  have hil : i ≠ h.next := fun e => by rw [e] at hi; omega
  -- what is told at the end, by the last store
  have last : ∀ {g : Hp} {w : Wd} {vk : V} {x y z : V} {S : Pos → Prop}, Ch S h0 g → (∀ j : Pos, S j → j = i ∨ j = h.next) → Ch (fun j => j = i) h (g.put h.next (some (.cells (.rw tW true) [.int .i64 w.kind, .str w.text, vk]))) := fun {g w vk x y z S} c hs =>
    ((c0.mono (S' := fun j => j = i) fun _ _ q => q.elim).trans c fun j hj q => by rcases hs j q with q | q; exact q; rw [q] at hj; omega).trans (Ch.put (S := fun j => j = h.next) _ _ rfl) fun j hj q => by rw [q] at hj; omega
  have hb : ¬ ((34 :: s : List Nat) = [] ∧ rest ≠ []) := fun q => by cases q.1
  have hlit : TryF48 [.ptr i 0] h0 = .ok (.bool false) h0 := by have := lit_ok p0; rwa [decide_eq_false hb] at this
  obtain ⟨h1, e34, p1, c1, n1⟩ := next_yes p0 (nextM_self 34 s rest)
  replace e34 : TryF45 [.ptr i 0, .int .u8 34] h0 = .ok (.bool true) h1 := e34
  obtain ⟨r, h2, eq, c2, hq⟩ := quoted_ok p1
  have c02 : Ch (fun j => j = i) h0 h2 := c1.trans c2 fun _ _ q => q
  have r2 : h2.get h.next = some (.cells (.rw tW true) [.int .i64 0, .str [], .nils]) := by rw [c02.get _ (by omega) fun e => hil e.symm]; exact r0
  have hwm := wordM_quote n s rest
  rcases hq with ⟨hn, rfl⟩ | ⟨t, s', hm, rfl, p2⟩
  · rw [show quotedM s = none from hn] at hwm
    have s2 := st3_get (a := V.int .i64 2) (b := V.str []) (c := V.nils) r2
    simp only [vmL, Nat.reduceEqDiff, reduceCtorEq, ↓reduceIte, vpL, vsL, vqL, Tryd44, Tryr44_0, oNew_w, ← e0, Tryr44_1, hlit, Tryr44_6, e34, Tryr44_7, Tryr44_8, eq, two, oBuild_w2, s2]
    exact Tells.ret (by simp only [resK, vmL, Nat.reduceEqDiff, reduceCtorEq, ↓reduceIte, vpL, vsL, vqL, dLoad43, ldN3_get (put_self _ _ _), tupR]; rfl) ⟨last (w := ⟨2, [], .nil⟩) (x := V.nils) (y := V.nils) (z := V.nils) c02 fun j q => .inl q, .inl ⟨hwm, 2, [], .nils, rfl, rfl, rfl⟩⟩
  · rw [show quotedM s = some (t, s') from hm] at hwm
    have s2 := st3_get (a := V.int .i64 2) (b := V.str t) (c := V.nils) r2
    simp only [vmL, Nat.reduceEqDiff, reduceCtorEq, ↓reduceIte, vpL, vsL, vqL, Tryd44, Tryr44_0, oNew_w, ← e0, Tryr44_1, hlit, Tryr44_6, e34, Tryr44_7, Tryr44_8, eq, two, oBuild_w2, s2]
    exact Tells.ret (by simp only [resK, vmL, Nat.reduceEqDiff, reduceCtorEq, ↓reduceIte, vpL, vsL, vqL, dLoad43, ldN3_get (put_self _ _ _), tupR]; rfl) ⟨last (w := ⟨2, t, .nil⟩) (x := V.nils) (y := V.nils) (z := V.nils) c02 fun j q => .inl q, .inr ⟨⟨2, t, .nil⟩, ⟨s', rest⟩, .nils, hwm, rfl, p2.ch (Ch.put (S := fun j => j = h.next) _ _ rfl) fun j hj => by rw [hj]; exact hi, WRow.nil _ _⟩⟩
theorem word_list0 {b : Nat} {texts lits : List (List Nat)} {n : Nat} {V36 : Fun} {deep : Int} {h : Hp} {i : Pos} {s : List Nat} {rest : List (List Nat × List Nat)} (hn : n = 0) (hd : deep = 8) (p : PSt b texts lits h i ⟨40 :: s, rest⟩) :
    Tells Tryz.prog [.cell 4 tW, .tmp 5] (WordQ b texts lits n h i ⟨40 :: s, rest⟩) (Tryd44 V36 (T.set (some (.int .i64 deep)) (Pos.of 1) (T.set (some (.ptr i 0)) (Pos.of 0) T.nil)) h) := by
  obtain ⟨h0, e0⟩ : ∃ h0, h0 = h.new (.cells (.rw tW true) [.int .i64 0, .str [], .nils]) := ⟨_, rfl⟩
  have c0 : Ch (fun _ => False) h h0 := by rw [e0]; exact Ch.new _ _ _
  have r0 : h0.get h.next = some (.cells (.rw tW true) [.int .i64 0, .str [], .nils]) := by rw [e0]; exact new_self _ _
  have n0 : h0.next.nat = h.next.nat + 1 := by rw [e0]; exact new_next_nat _ _
  have p0 := p.ch c0 fun _ q => q.elim
  have hi := p.lt
  have hil : i ≠ h.next := fun e => by rw [e] at hi; omega
  -- what is told at the end, by the last store
  have last : ∀ {g : Hp} {w : Wd} {vk : V} {x y z : V} {S : Pos → Prop}, Ch S h0 g → (∀ j : Pos, S j → j = i ∨ j = h.next) → Ch (fun j => j = i) h (g.put h.next (some (.cells (.rw tW true) [.int .i64 w.kind, .str w.text, vk]))) := fun {g w vk x y z S} c hs =>
    ((c0.mono (S' := fun j => j = i) fun _ _ q => q.elim).trans c fun j hj q => by rcases hs j q with q | q; exact q; rw [q] at hj; omega).trans (Ch.put (S := fun j => j = h.next) _ _ rfl) fun j hj q => by rw [q] at hj; omega
  have hb : ¬ ((40 :: s : List Nat) = [] ∧ rest ≠ []) := fun q => by cases q.1
  have hlit : TryF48 [.ptr i 0] h0 = .ok (.bool false) h0 := by have := lit_ok p0; rwa [decide_eq_false hb] at this
  have e34 : TryF45 [.ptr i 0, .int .u8 34] h0 = .ok (.bool false) h0 := next_no p0 (nextM_other 34 40 s rest (by omega))
  obtain ⟨h1, e40, p1, c1, n1⟩ := next_yes p0 (nextM_self 40 s rest)
  replace e40 : TryF45 [.ptr i 0, .int .u8 40] h0 = .ok (.bool true) h1 := e40
  have r1 : h1.get h.next = some (.cells (.rw tW true) [.int .i64 0, .str [], .nils]) := by rw [c1.get _ (by omega) fun e => hil e.symm]; exact r0
  subst hn hd
  have s1 := st3_get (a := V.int .i64 0) (b := V.str []) (c := V.nils) r1
  simp only [vmL, Nat.reduceEqDiff, reduceCtorEq, ↓reduceIte, vpL, vsL, vqL, Tryd44, Tryr44_0, oNew_w, ← e0, Tryr44_1, hlit, Tryr44_6, e34, Tryr44_9, e40, Tryr44_10, Tryr44_11, oBuild_w0, s1, ge_iff_le, show ((8 : Int) ≤ 8) by omega]
  exact Tells.ret (by simp only [resK, vmL, Nat.reduceEqDiff, reduceCtorEq, ↓reduceIte, vpL, vsL, vqL, dLoad43, ldN3_get (put_self _ _ _), tupR]; rfl) ⟨last (w := ⟨0, [], .nil⟩) (x := V.nils) (y := V.nils) (z := V.nils) c1 fun j q => .inl q, .inl ⟨wordM_list0 _ _, 0, [], .nils, rfl, rfl, rfl⟩⟩
theorem word_list {b : Nat} {texts lits : List (List Nat)} {n : Nat} {V36 : Fun} {deep : Int} {h : Hp} {i : Pos} {s : List Nat} {rest : List (List Nat × List Nat)} {n' : Nat} (hn : n = n' + 1) (hd : deep < 8) (hd0 : 0 ≤ deep) (h36 : WordsOk b texts lits n' V36 (deep + 1)) (p : PSt b texts lits h i ⟨40 :: s, rest⟩) (hsz : St.size ⟨40 :: s, rest⟩ < 1000000000) :
    Tells Tryz.prog [.cell 4 tW, .tmp 5] (WordQ b texts lits n h i ⟨40 :: s, rest⟩) (Tryd44 V36 (T.set (some (.int .i64 deep)) (Pos.of 1) (T.set (some (.ptr i 0)) (Pos.of 0) T.nil)) h) := by
  obtain ⟨h0, e0⟩ : ∃ h0, h0 = h.new (.cells (.rw tW true) [.int .i64 0, .str [], .nils]) := ⟨_, rfl⟩
  have c0 : Ch (fun _ => False) h h0 := by rw [e0]; exact Ch.new _ _ _
  have r0 : h0.get h.next = some (.cells (.rw tW true) [.int .i64 0, .str [], .nils]) := by rw [e0]; exact new_self _ _
  have n0 : h0.next.nat = h.next.nat + 1 := by rw [e0]; exact new_next_nat _ _
  have p0 := p.ch c0 fun _ q => q.elim
  have hi := p.lt
  have hil : i ≠ h.next := fun e => by rw [e] at hi; omega
  -- what is told at the end, by the last store
  have last : ∀ {g : Hp} {w : Wd} {vk : V} {x y z : V} {S : Pos → Prop}, Ch S h0 g → (∀ j : Pos, S j → j = i ∨ j = h.next) → Ch (fun j => j = i) h (g.put h.next (some (.cells (.rw tW true) [.int .i64 w.kind, .str w.text, vk]))) := fun {g w vk x y z S} c hs =>
    ((c0.mono (S' := fun j => j = i) fun _ _ q => q.elim).trans c fun j hj q => by rcases hs j q with q | q; exact q; rw [q] at hj; omega).trans (Ch.put (S := fun j => j = h.next) _ _ rfl) fun j hj q => by rw [q] at hj; omega
  have hb : ¬ ((40 :: s : List Nat) = [] ∧ rest ≠ []) := fun q => by cases q.1
  have hlit : TryF48 [.ptr i 0] h0 = .ok (.bool false) h0 := by have := lit_ok p0; rwa [decide_eq_false hb] at this
  have e34 : TryF45 [.ptr i 0, .int .u8 34] h0 = .ok (.bool false) h0 := next_no p0 (nextM_other 34 40 s rest (by omega))
  obtain ⟨h1, e40, p1, c1, n1⟩ := next_yes p0 (nextM_self 40 s rest)
  replace e40 : TryF45 [.ptr i 0, .int .u8 40] h0 = .ok (.bool true) h1 := e40
  have r1 : h1.get h.next = some (.cells (.rw tW true) [.int .i64 0, .str [], .nils]) := by rw [c1.get _ (by omega) fun e => hil e.symm]; exact r0
  subst hn
  have sz1 := nextM_size (nextM_self 40 s rest)
  have hwm := wordM_list n' s rest
  have hd8 : ¬ deep ≥ 8 := by omega
  have s1 : oStore 3 (.ptr h1.next 0) (.agg (.cons (.int .i64 3) (.cons (.str []) (.cons .nils .nil)))) (h1.new (.cells (.rw tW true) [.int .i64 0, .str [], .nils])) = .ok V.undef ((h1.new (.cells (.rw tW true) [.int .i64 0, .str [], .nils])).put h1.next (some (.cells (.rw tW true) [.int .i64 3, .str [], .nils]))) := st3_get (new_self _ _)
  have c2 : Ch (fun _ => False) h1 ((h1.new (.cells (.rw tW true) [.int .i64 0, .str [], .nils])).put h1.next (some (.cells (.rw tW true) [.int .i64 3, .str [], .nils]))) :=
    (Ch.new (fun _ => False) h1 _).trans (Ch.put (S := fun j => j = h1.next) _ _ rfl) fun j hj q => by rw [q] at hj; omega
  have w2 : ((h1.new (.cells (.rw tW true) [.int .i64 0, .str [], .nils])).put h1.next (some (.cells (.rw tW true) [.int .i64 3, .str [], .nils]))).get h1.next = some (.cells (.rw tW true) [.int .i64 3, .str [], .nils]) := put_self _ _ _
  have n2 : ((h1.new (.cells (.rw tW true) [.int .i64 0, .str [], .nils])).put h1.next (some (.cells (.rw tW true) [.int .i64 3, .str [], .nils]))).next.nat = h1.next.nat + 1 := by rw [put_next, new_next_nat]
  generalize (h1.new (.cells (.rw tW true) [.int .i64 0, .str [], .nils])).put h1.next (some (.cells (.rw tW true) [.int .i64 3, .str [], .nils])) = h2 at s1 c2 w2 n2
  have p2 := p1.ch c2 fun _ q => q.elim
  have c02 : Ch (fun j => j = i) h0 h2 := c1.trans c2 fun _ _ q => q.elim
  have hn1 : h.next.nat < h1.next.nat := by rw [n1]; omega
  have r2 : h2.get h.next = some (.cells (.rw tW true) [.int .i64 0, .str [], .nils]) := by rw [c2.get _ hn1 fun q => q]; exact r1
  cases hx : nextM 41 ⟨s, rest⟩ with
  | some st2 =>
    rw [hx] at hwm
    obtain ⟨h3, e41, p3, c3, n3⟩ := next_yes p2 hx
    replace e41 : TryF45 [.ptr i 0, .int .u8 41] h2 = .ok (.bool true) h3 := e41
    have c03 : Ch (fun j => j = i) h0 h3 := c02.trans c3 fun _ _ q => q
    have r3 : h3.get h.next = some (.cells (.rw tW true) [.int .i64 0, .str [], .nils]) := by rw [c3.get _ (by omega) fun e => hil e.symm]; exact r2
    have w3 : h3.get h1.next = some (.cells (.rw tW true) [.int .i64 3, .str [], .nils]) := by rw [c3.get _ (by omega) fun e => by rw [← e] at hi; omega]; exact w2
    have s3 := st3_get (a := V.int .i64 3) (b := V.str []) (c := V.nils) r3
    simp only [vmL, Nat.reduceEqDiff, reduceCtorEq, ↓reduceIte, vpL, vsL, vqL, Tryd44, Tryr44_0, oNew_w, ← e0, Tryr44_1, hlit, Tryr44_6, e34, Tryr44_9, e40, Tryr44_10, Tryr44_12, oBuild_w1, hd8, s1, Tryr44_13, e41, Tryr44_14, ldN3_get w3, s3]
    exact Tells.ret (by simp only [resK, vmL, Nat.reduceEqDiff, reduceCtorEq, ↓reduceIte, vpL, vsL, vqL, dLoad43, ldN3_get (put_self _ _ _), tupR]; rfl) ⟨last (w := ⟨3, [], .nil⟩) (x := V.nils) (y := V.nils) (z := V.nils) c03 fun j q => .inl q, .inr ⟨⟨3, [], .nil⟩, st2, .nils, hwm, rfl, p3.ch (Ch.put (S := fun j => j = h.next) _ _ rfl) fun j hj => by rw [hj]; exact hi, WRow.nil _ _⟩⟩
  | none =>
    rw [hx] at hwm
    simp only [] at hwm
    have e41 : TryF45 [.ptr i 0, .int .u8 41] h2 = .ok (.bool false) h2 := next_no p2 hx
    obtain ⟨r, h3, e36, c3, hq⟩ := h36 h2 i ⟨s, rest⟩ p2 (by omega)
    have c03 : Ch (fun j => j = i) h0 h3 := c02.trans c3 fun _ _ q => q
    have r3 : h3.get h.next = some (.cells (.rw tW true) [.int .i64 0, .str [], .nils]) := by rw [c3.get _ (by omega) fun e => hil e.symm]; exact r2
    have w3 : h3.get h1.next = some (.cells (.rw tW true) [.int .i64 3, .str [], .nils]) := by rw [c3.get _ (by omega) fun e => by rw [← e] at hi; omega]; exact w2
    have lt3 := c3.next
    rcases hq with ⟨hno, rfl⟩ | ⟨ws, st2, v, hm, rfl, p3, wr⟩
    · rw [hno] at hwm
      have s3 := st_get (q := 2) (y := V.nils) w3 ⟨rfl, rfl⟩ (by simp)
      have w4 : (h3.put h1.next (some (.cells (.rw tW true) ([V.int .i64 3, V.str [], V.nils].set 2 V.nils)))).get h1.next = some (.cells (.rw tW true) [.int .i64 3, .str [], .nils]) := put_self _ _ _
      have c4 : Ch (fun j => j = h1.next) h3 (h3.put h1.next (some (.cells (.rw tW true) ([V.int .i64 3, V.str [], V.nils].set 2 V.nils)))) := Ch.put (S := fun j => j = h1.next) _ _ rfl
      generalize h3.put h1.next (some (.cells (.rw tW true) ([V.int .i64 3, V.str [], V.nils].set 2 V.nils))) = h4 at s3 w4 c4
      have r4 : h4.get h.next = some (.cells (.rw tW true) [.int .i64 0, .str [], .nils]) := by rw [c4.get _ (by omega) fun e => by rw [e] at hn1; omega]; exact r3
      have s4 := st3_get (a := V.int .i64 3) (b := V.str []) (c := V.nils) r4
      have c04 : Ch (fun j => j = i) h0 h4 := c03.trans c4 fun j hj q => by rw [q, n1] at hj; omega
      have ck : ∀ k, chk (fun h => oLoadN 3 (.ptr h1.next 0) h) (.agg (.cons (.int .i64 3) (.cons (.str []) (.cons .nils .nil)))) k 1 [h4] = k := fun k => chk_one (ldN3_get w4) (eqV_wag (w := ⟨3, [], .nil⟩) (Ow.nil 0 h4 tW 3))
      simp (disch := omega) only [vmL, Nat.reduceEqDiff, reduceCtorEq, ↓reduceIte, vpL, vsL, vqL, Tryd44, Tryr44_0, oNew_w, ← e0, Tryr44_1, hlit, Tryr44_6, e34, Tryr44_9, e40, Tryr44_10, Tryr44_12, oBuild_w1, hd8, s1, Tryr44_13, e41, Tryr44_15, e36, two, Tryr44_16, s3, Tryr44_17, ldN3_get w4, ck, s4]
      exact Tells.ret (by simp only [resK, vmL, Nat.reduceEqDiff, reduceCtorEq, ↓reduceIte, vpL, vsL, vqL, dLoad43, ldN3_get (put_self _ _ _), tupR]; rfl) ⟨last (w := ⟨3, [], .nil⟩) (x := V.nils) (y := V.nils) (z := V.nils) c04 fun j q => .inl q, .inl ⟨hwm, 3, [], .nils, rfl, rfl, rfl⟩⟩
    · rw [hm] at hwm
      simp only [] at hwm
      obtain ⟨cs, ov, iv, wa⟩ := wr
      have s3 := st_get (q := 2) (y := v) w3 ov.cell (by simp)
      have w4 : (h3.put h1.next (some (.cells (.rw tW true) ([V.int .i64 3, V.str [], V.nils].set 2 v)))).get h1.next = some (.cells (.rw tW true) [.int .i64 3, .str [], v]) := put_self _ _ _
      have c4 : Ch (fun j => j = h1.next) h3 (h3.put h1.next (some (.cells (.rw tW true) ([V.int .i64 3, V.str [], V.nils].set 2 v)))) := Ch.put (S := fun j => j = h1.next) _ _ rfl
      generalize h3.put h1.next (some (.cells (.rw tW true) ([V.int .i64 3, V.str [], V.nils].set 2 v))) = h4 at s3 w4 c4
      have r4 : h4.get h.next = some (.cells (.rw tW true) [.int .i64 0, .str [], .nils]) := by rw [c4.get _ (by omega) fun e => by rw [e] at hn1; omega]; exact r3
      have c04 : Ch (fun j => j = i) h0 h4 := c03.trans c4 fun j hj q => by rw [q, n1] at hj; omega
      have p4 := p3.ch c4 fun j hj => by rw [hj]; omega
      have lt4 := c4.next
      have ck : ∀ k, chk (fun h => oLoadN 3 (.ptr h1.next 0) h) (.agg (.cons (.int .i64 3) (.cons (.str []) (.cons v .nil)))) k 1 [h4] = k := fun k => chk_one (ldN3_get w4) (eqV_wag (w := ⟨3, [], .nil⟩) ov)
      cases hy : nextM 41 st2 with
      | none =>
        rw [hy] at hwm
        have e41' : TryF45 [.ptr i 0, .int .u8 41] h4 = .ok (.bool false) h4 := next_no p4 hy
        have s4 := st3_get (a := V.int .i64 3) (b := V.str []) (c := v) r4
        simp (disch := omega) only [vmL, Nat.reduceEqDiff, reduceCtorEq, ↓reduceIte, vpL, vsL, vqL, Tryd44, Tryr44_0, oNew_w, ← e0, Tryr44_1, hlit, Tryr44_6, e34, Tryr44_9, e40, Tryr44_10, Tryr44_12, oBuild_w1, hd8, s1, Tryr44_13, e41, Tryr44_15, e36, two, Tryr44_16, s3, Tryr44_17, e41', ldN3_get w4, ck, s4]
        exact Tells.ret (by simp only [resK, vmL, Nat.reduceEqDiff, reduceCtorEq, ↓reduceIte, vpL, vsL, vqL, dLoad43, ldN3_get (put_self _ _ _), tupR]; rfl) ⟨last (w := ⟨3, [], .nil⟩) (x := V.nils) (y := V.nils) (z := V.nils) c04 fun j q => .inl q, .inl ⟨hwm, 3, [], v, rfl, ov.cell.2, ov.cell.1⟩⟩
      | some st3 =>
        rw [hy] at hwm
        obtain ⟨h5, e41', p5, c5, n5⟩ := next_yes p4 hy
        replace e41' : TryF45 [.ptr i 0, .int .u8 41] h4 = .ok (.bool true) h5 := e41'
        have r5 : h5.get h.next = some (.cells (.rw tW true) [.int .i64 0, .str [], .nils]) := by rw [c5.get _ (by omega) fun e => hil e.symm]; exact r4
        have w5 : h5.get h1.next = some (.cells (.rw tW true) [.int .i64 3, .str [], v]) := by rw [c5.get _ (by omega) fun e => by rw [← e] at hi; omega]; exact w4
        have c05 : Ch (fun j => j = i) h0 h5 := c04.trans c5 fun _ _ q => q
        have s5 := st3_get (a := V.int .i64 3) (b := V.str []) (c := v) r5
        have lt5 := c5.next
        have c6 : Ch (fun j => j = h.next) h5 (h5.put h.next (some (.cells (.rw tW true) [V.int .i64 3, V.str [], v]))) := Ch.put (S := fun j => j = h.next) _ _ rfl
        have c36 : Ch (fun j => j = h1.next ∨ j = i ∨ j = h.next) h3 (h5.put h.next (some (.cells (.rw tW true) [V.int .i64 3, V.str [], v]))) :=
          ((c4.mono (S' := fun j => j = h1.next ∨ j = i ∨ j = h.next) fun _ _ q => .inl q).trans c5 fun _ _ q => .inr (.inl q)).trans c6 fun _ _ q => .inr (.inr q)
        simp (disch := omega) only [vmL, Nat.reduceEqDiff, reduceCtorEq, ↓reduceIte, vpL, vsL, vqL, Tryd44, Tryr44_0, oNew_w, ← e0, Tryr44_1, hlit, Tryr44_6, e34, Tryr44_9, e40, Tryr44_10, Tryr44_12, oBuild_w1, hd8, s1, Tryr44_13, e41, Tryr44_15, e36, two, Tryr44_16, s3, Tryr44_17, e41', ldN3_get w5, ck, s5]
        refine Tells.ret (by simp only [resK, vmL, Nat.reduceEqDiff, reduceCtorEq, ↓reduceIte, vpL, vsL, vqL, dLoad43, ldN3_get (put_self _ _ _), tupR]; rfl) ⟨last (w := ⟨3, [], .nil⟩) (x := V.nils) (y := V.nils) (z := V.nils) c05 fun j q => .inl q, .inr ⟨⟨3, [], ws⟩, st3, v, hwm, rfl, p5.ch c6 fun j hj => by rw [hj]; exact hi, WRow.ch ⟨cs, ov, iv, wa⟩ c36 fun j hj q => ⟨by omega, fun e => ?_⟩⟩⟩
        rcases e with e | e | e
        · rw [e] at q; omega
        · rw [e] at q; omega
        · rw [e] at q; omega
theorem word_ok {b : Nat} {texts lits : List (List Nat)} : ∀ {n m : Nat} {deep : Int}, deep = 8 - (n : Int) → 0 ≤ deep → n < m → WordOk b texts lits n (TryW m) deep
  | n, 0, _, _, _, h => by omega
  | n, m + 1, deep, hd, hd0, hm => by
    intro h i st p hsz
    show ∃ r h', TryF44 (TryF36 (TryW m)) [.ptr i 0, .int .i64 deep] h = .ok r h' ∧ WordQ b texts lits n h i st r h'
    rw [TryF44_eq]
    obtain ⟨cur, rest⟩ := st
    cases cur with
    | nil =>
      cases rest with
      | cons lt r => exact word_lit p
      | nil => exact word_atom p (fun q => q.2 rfl) (nextM_nil _ _) (nextM_nil _ _) (by rw [wordM_nil]; rfl)
    | cons c s =>
      by_cases h34 : c = 34
      · subst h34; exact word_quote p
      · by_cases h40 : c = 40
        · subst h40
          cases n with
          | zero => exact word_list0 rfl (by omega) p
          | succ n' => exact word_list rfl (by omega) hd0 (fun h i st p hz => words_ok (word_ok (n := n') (m := m) (by omega) (by omega) (by omega)) p hz) p hsz
        · refine word_atom p (fun q => by cases q.1) (nextM_other _ _ _ _ h34) (nextM_other _ _ _ _ h40) ?_
          rw [wordM_atom n c s rest h34 h40]
          by_cases ha : atomC c = true
          · rw [if_pos ha, if_pos]
            rw [List.takeWhile_cons_of_pos ha, List.length_cons]; omega
          · rw [if_neg ha, if_neg]
            rw [List.takeWhile_cons_of_neg ha]; simp
end Go.Proofs.Im

noncomputable section
namespace Go.Proofs.Im
open Go Go.Proofs Go.Vm Go.Ln
set_option linter.unusedVariables false
set_option maxRecDepth 100000
set_option linter.unusedSimpArgs false
theorem drop_last_one {s : List Nat} {c : Nat} : s.drop (s.length - 1) = [c] ↔ s.getLast? = some c := by
  cases hs : s with
  | nil => simp
  | cons a l =>
    have hne : (a :: l) ≠ [] := by simp
    rw [List.getLast?_eq_some_getLast hne]
    have : (a :: l).drop ((a :: l).length - 1) = [(a :: l).getLast hne] := by
      conv => lhs; rw [← List.dropLast_concat_getLast hne]
      rw [List.drop_left' (by simp)]
    rw [this]
    simp
theorem suffix_ok {s : List Nat} {c : Nat} (hl : s.length < 4611686018427387904) (h : Hp) : TryF41 [.str s, .str [c]] h = .ok (.bool (decide (s.getLast? = some c))) h := by
  rw [TryF41_eq]
  by_cases hs : s.length ≥ 1
  · have h1 : (s.length : Int) ≥ 1 := by omega
    have e : oSliceStr (.str s) (some (.int .i64 ((s.length : Int) - 1))) none h = .ok (.str (s.drop (s.length - 1))) h := by
      rw [show (s.length : Int) - 1 = ((s.length - 1 : Nat) : Int) by omega]
      exact oSliceStr_from (by omega)
    have hz : ((1 : Nat) : Int) = 1 := rfl
    simp (disch := omega) only [vmL, Nat.reduceEqDiff, reduceCtorEq, ↓reduceIte, vpL, vsL, vqL, Tryd41, Tryr41_0, Tryr41_1, List.length_cons, List.length_nil, hz, h1, e, outR, resK, tupR, drop_last_one]
  · have : s = [] := List.length_eq_zero_iff.1 (by omega)
    subst this
    have hz : ((1 : Nat) : Int) = 1 := rfl
    have hz0 : ((0 : Nat) : Int) = 0 := rfl
    have hno : ¬ ((0 : Int) ≥ 1) := by omega
    simp (disch := omega) only [vmL, Nat.reduceEqDiff, reduceCtorEq, ↓reduceIte, vpL, vsL, vqL, Tryd41, Tryr41_0, Tryr41_1, List.length_cons, List.length_nil, hz, hz0, hno, outR, resK, tupR, List.getLast?_nil, reduceCtorEq]
theorem take_drop_last {s : List Nat} (hl : 1 ≤ s.length) (h : Hp) : oSliceStr (.str s) none (some (.int .i64 ((s.length : Int) - 1))) h = .ok (.str s.dropLast) h := by
  rw [show (s.length : Int) - 1 = ((s.length - 1 : Nat) : Int) by omega, List.dropLast_eq_take]
  exact oSliceStr_to (by omega)
def cutV (s : List Nat) (c : Nat) : V := if s.getLast? = some c then two (.str s.dropLast) (.bool true) else two (.str s) (.bool false)
theorem cut_ok {s : List Nat} {c : Nat} (hl : s.length < 4611686018427387904) (h : Hp) : TryF33 [.str s, .str [c]] h = .ok (cutV s c) h := by
  have e42 : TryF42 [.str s, .str [c]] h = .ok (cutV s c) h := by
    rw [TryF42_eq]
    have hz : ((1 : Nat) : Int) = 1 := rfl
    by_cases hs : s.getLast? = some c
    · have hpos : 1 ≤ s.length := by cases s with | nil => simp at hs | cons a l => simp
      simp (disch := omega) only [vmL, Nat.reduceEqDiff, reduceCtorEq, ↓reduceIte, vpL, vsL, vqL, Tryd42, Tryr42_0, Tryr42_1, Tryr42_2, Tryr42_3, suffix_ok hl, hs, List.length_cons, List.length_nil, hz, take_drop_last hpos, outR, resK, tupR, cutV, if_true]
      rfl
    · simp (disch := omega) only [vmL, Nat.reduceEqDiff, reduceCtorEq, ↓reduceIte, vpL, vsL, vqL, Tryd42, Tryr42_0, Tryr42_1, Tryr42_2, Tryr42_3, suffix_ok hl, hs, outR, resK, tupR, cutV, if_false]
      rfl
  rw [TryF33_eq]
  by_cases hs : s.getLast? = some c
  · simp only [cutV, hs, if_true] at e42 ⊢
    simp only [vmL, Nat.reduceEqDiff, reduceCtorEq, ↓reduceIte, vpL, vsL, vqL, Tryd33, Tryr33_0, Tryr33_1, e42, two, outR, resK, tupR]
    rfl
  · simp only [cutV, hs, if_false] at e42 ⊢
    simp only [vmL, Nat.reduceEqDiff, reduceCtorEq, ↓reduceIte, vpL, vsL, vqL, Tryd33, Tryr33_0, Tryr33_1, e42, two, outR, resK, tupR]
    rfl
theorem trim_ok {s : List Nat} (hl : s.length < 4611686018427387904) (h : Hp) : TryF26 [.str s, .str [13]] h = .ok (.str (cutCR s)) h := by
  have e32 : TryF32 [.str s, .str [13]] h = .ok (.str (cutCR s)) h := by
    rw [TryF32_eq]
    have hz : ((1 : Nat) : Int) = 1 := rfl
    by_cases hs : s.getLast? = some 13
    · have hpos : 1 ≤ s.length := by cases s with | nil => simp at hs | cons a l => simp
      simp (disch := omega) only [vmL, Nat.reduceEqDiff, reduceCtorEq, ↓reduceIte, vpL, vsL, vqL, Tryd32, Tryr32_0, Tryr32_1, Tryr32_2, Tryr32_3, suffix_ok hl, hs, List.length_cons, List.length_nil, hz, take_drop_last hpos, outR, resK, tupR, cutCR, if_true]
    · simp (disch := omega) only [vmL, Nat.reduceEqDiff, reduceCtorEq, ↓reduceIte, vpL, vsL, vqL, Tryd32, Tryr32_0, Tryr32_1, Tryr32_2, Tryr32_3, suffix_ok hl, hs, outR, resK, tupR, cutCR, if_false]
  rw [TryF26_eq]
  simp only [vmL, Nat.reduceEqDiff, reduceCtorEq, ↓reduceIte, vpL, vsL, vqL, Tryd26, Tryr26_0, Tryr26_1, e32, outR, resK, tupR]
theorem lastM_eq (c : Nat) (s : List Nat) : lastM c s = none ∧ c ∉ s ∨ ∃ i, lastM c s = some i ∧ s[i]? = some c ∧ c ∉ s.drop (i + 1) := by
  induction s with
  | nil => exact .inl ⟨rfl, by simp⟩
  | cons d l ih =>
    rcases ih with ⟨h1, h2⟩ | ⟨i, h1, h2, h3⟩
    · by_cases hd : d = c
      · exact .inr ⟨0, by simp [lastM, h1, hd], by simp [hd], by simpa using h2⟩
      · exact .inl ⟨by simp [lastM, h1, hd], by simp [h2, Ne.symm hd]⟩
    · exact .inr ⟨i + 1, by simp [lastM, h1], by simpa using h2, by simpa using h3⟩
theorem lastM_of {c : Nat} {s : List Nat} {i : Nat} (h1 : s[i]? = some c) (h2 : c ∉ s.drop (i + 1)) : lastM c s = some i := by
  rcases lastM_eq c s with ⟨_, h3⟩ | ⟨j, e, h3, h4⟩
  · exact absurd (List.mem_of_getElem? h1) h3
  · rcases Nat.lt_trichotomy i j with hlt | rfl | hlt
    · exact absurd (List.mem_of_getElem? (i := j - (i + 1)) (by rw [List.getElem?_drop, show i + 1 + (j - (i + 1)) = j by omega]; exact h3)) h2
    · exact e
    · exact absurd (List.mem_of_getElem? (i := i - (j + 1)) (by rw [List.getElem?_drop, show j + 1 + (i - (j + 1)) = i by omega]; exact h1)) h4
theorem lastM_none {c : Nat} {s : List Nat} (h : c ∉ s) : lastM c s = none := by
  rcases lastM_eq c s with ⟨h1, _⟩ | ⟨j, e, h3, _⟩
  · exact h1
  · exact absurd (List.mem_of_getElem? h3) h
def lastV (c : Nat) (s : List Nat) : Int := match lastM c s with | some i => (i : Int) | none => -1
theorem last_ok {s : List Nat} {c : Nat} (hl : s.length < 1000000000) (h : Hp) : TryF34 [.str s, .int .u8 (c : Int)] h = .ok (.int .i64 (lastV c s)) h := by
  have e43 : TryF43 [.str s, .int .u8 (c : Int)] h = .ok (.int .i64 (lastV c s)) h := by
    rw [TryF43_eq]
    have : Tells Tryz.prog [.tmp 4] (fun r h' => r = .int .i64 (lastV c s) ∧ h' = h) (Tryd43 (T.set (some (.int .u8 (c : Int))) (Pos.of 1) (T.set (some (.str s)) (Pos.of 0) T.nil)) h) := by
      simp (disch := omega) only [vmL, Nat.reduceEqDiff, reduceCtorEq, ↓reduceIte, vpL, vsL, vqL, Tryd43, Tryr43_0, Tryr43_1]
      refine Oc.then (loop_rule (n := s.length) (fun m fr g => fr.get (Pos.of 0) = some (.str s) ∧ fr.get (Pos.of 1) = some (.int .u8 (c : Int)) ∧ fr.get (Pos.of 5) = some (.int .i64 ((m : Int) - 1)) ∧ m ≤ s.length ∧ c ∉ s.drop m ∧ g = h)
        (A := fun fr g => c ∉ s ∧ g = h) (B := fun fr g => fr.get (Pos.of 4) = some (.int .i64 (lastV c s)) ∧ g = h) (by rw [lf_eq]; omega) ?_ ?_) ?_ ?_
      · exact ⟨by simp only [vmL, Nat.reduceEqDiff, reduceCtorEq, ↓reduceIte, vpL, vsL, vqL], by simp only [vmL, Nat.reduceEqDiff, reduceCtorEq, ↓reduceIte, vpL, vsL, vqL], by simp only [vmL, Nat.reduceEqDiff, reduceCtorEq, ↓reduceIte, vpL, vsL, vqL], Nat.le_refl _, by simp, rfl⟩
      · rintro m fr g ⟨f0, f1, f5, hm, hno, rfl⟩
        cases m with
        | zero =>
          have hlt : ¬ (((0 : Nat) : Int) - 1 ≥ 0) := by omega
          simp (disch := omega) only [vmL, Nat.reduceEqDiff, reduceCtorEq, ↓reduceIte, vpL, vsL, vqL, Tryb43_2, Tryr43_2, f5, hlt]
          exact ⟨rfl, by simpa using hno, rfl⟩
        | succ m =>
          have hml : m < s.length := by omega
          have hge : (((m + 1 : Nat) : Int) - 1 ≥ 0) := by omega
          have ix : ∀ h, oIdxStr (.str s) (.int .i64 (((m + 1 : Nat) : Int) - 1)) h = .ok (.int .u8 (s[m] : Int)) h := fun h => by
            rw [show ((m + 1 : Nat) : Int) - 1 = (m : Int) by omega]
            exact oIdxStr_ok (List.getElem?_eq_getElem hml)
          by_cases hc : s[m] = c
          · have hc' : ((s[m] : Nat) : Int) = (c : Int) := by rw [hc]
            simp (disch := omega) only [vmL, Nat.reduceEqDiff, reduceCtorEq, ↓reduceIte, vpL, vsL, vqL, Tryb43_2, Tryr43_2, Tryr43_4, Tryr43_5, f0, f1, f5, hge, ix, eq_true hc']
            refine ⟨?_, rfl⟩
            simp only [vmL, Nat.reduceEqDiff, reduceCtorEq, ↓reduceIte, vpL, vsL, vqL]
            rw [lastV, lastM_of (i := m) (by rw [List.getElem?_eq_getElem hml, hc]) hno]
            simp only [Option.some.injEq, V.int.injEq, true_and]
            omega
          · have hc' : ¬ ((s[m] : Nat) : Int) = (c : Int) := by omega
            simp (disch := omega) only [vmL, Nat.reduceEqDiff, reduceCtorEq, ↓reduceIte, vpL, vsL, vqL, Tryb43_2, Tryr43_2, Tryr43_4, Tryr43_3, f0, f1, f5, hge, ix, hc']
            refine ⟨m, by omega, by simp only [vmL, Nat.reduceEqDiff, reduceCtorEq, ↓reduceIte, vpL, vsL, vqL, f0], by simp only [vmL, Nat.reduceEqDiff, reduceCtorEq, ↓reduceIte, vpL, vsL, vqL, f1], ?_, by omega, ?_, rfl⟩
            · simp only [vmL, Nat.reduceEqDiff, reduceCtorEq, ↓reduceIte, vpL, vsL, vqL, Option.some.injEq, V.int.injEq, true_and]; omega
            · rw [List.drop_eq_getElem_cons hml, List.mem_cons, not_or]
              exact ⟨fun e => hc e.symm, hno⟩
      · rintro fr g ⟨hno, rfl⟩
        simp only [vmL, Nat.reduceEqDiff, reduceCtorEq, ↓reduceIte, vpL, vsL, vqL, Tryr43_6]
        refine Tells.ret (by simp only [resK, vmL, Nat.reduceEqDiff, reduceCtorEq, ↓reduceIte, vpL, vsL, vqL, tupR]; rfl) ⟨?_, rfl⟩
        rw [lastV, lastM_none hno]
      · rintro fr g ⟨f4, rfl⟩
        exact Tells.ret (by simp only [resK, f4, tupR]) ⟨rfl, rfl⟩
    obtain ⟨r, h', e, rfl, rfl⟩ := this
    exact e
  rw [TryF34_eq]
  simp only [vmL, Nat.reduceEqDiff, reduceCtorEq, ↓reduceIte, vpL, vsL, vqL, Tryd34, Tryr34_0, Tryr34_1, e43, outR, resK, tupR]
end Go.Proofs.Im
