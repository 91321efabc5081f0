/- Part of the value machine, or of a walk by it: lemmas that the claim's last text uses. No conditions. -/
import Derived.Test.YtgnfkfmhjgbhhaaLineBb
import Derived.Test.YtgnfkfmhjgbhhaaChecked
import Derived.KernelRfl
import Derived.Test.YtgnfkfmhjgbhhaaLineWordsA
import Derived.Test.YtgnfkfmhjgbhhaaLineC
set_option linter.unusedVariables false
set_option linter.unusedSimpArgs false
set_option linter.unnecessarySimpa false
namespace Go.Ln
open Go Go.Vm
set_option linter.unusedVariables false
def Wds.count : Wds → Nat
  | .nil => 0
  | .cons _ _ ks r => 1 + ks.count + r.count
def Wds.depth : Wds → Nat
  | .nil => 0
  | .cons _ _ ks r => max (ks.depth + 1) r.depth
theorem Wds.len_count : ∀ w : Wds, w.len ≤ w.count
  | .nil => Nat.le_refl _
  | .cons _ _ ks r => by have := Wds.len_count r; simp only [Wds.len, Wds.count]; omega
theorem loopW_cd {n : Nat} {word : St → Option (Wd × St)} (hw : ∀ st w st', word st = some (w, st') → w.kids.count + 1 + St.size st' ≤ St.size st ∧ w.kids.depth ≤ n) : ∀ {f : Nat} {st : St} {ws : Wds} {st' : St}, loopW word f st = some (ws, st') → ws.count + St.size st' ≤ St.size st ∧ ws.depth ≤ n + 1
  | 0, st, ws, st', e => by cases e
  | f + 1, st, ws, st', e => by
    rw [loopW] at e
    cases h1 : word st with
    | none => rw [h1] at e; cases e
    | some p =>
      obtain ⟨w, st1⟩ := p
      rw [h1] at e
      have s1 := hw _ _ _ h1
      simp only [] at e
      cases h2 : nextM 32 st1 with
      | none =>
        rw [h2] at e; cases e
        simp only [Wds.count, Wds.depth]
        omega
      | some st2 =>
        rw [h2] at e
        have s2 := nextM_size h2
        simp only [] at e
        cases h3 : loopW word f st2 with
        | none => rw [h3] at e; cases e
        | some q =>
          obtain ⟨ws', st3⟩ := q
          rw [h3] at e
          cases e
          have s3 := loopW_cd hw h3
          simp only [Wds.count, Wds.depth]
          omega
theorem wordM_cd : ∀ {n : Nat} {st : St} {w : Wd} {st' : St}, wordM n st = some (w, st') → w.kids.count + 1 + St.size st' ≤ St.size st ∧ w.kids.depth ≤ n := by
  intro n
  induction n with
  | zero =>
    intro st w st' h
    have hs := wordM_size h
    have hk : w.kids = .nil := by
      obtain ⟨cur, rest⟩ := st
      rw [wordM.eq_def] at h
      cases cur with
      | nil =>
        cases rest with
        | nil => cases h
        | cons p r => obtain ⟨l, t⟩ := p; cases h; rfl
      | cons c s =>
        simp only [] at h
        split at h
        · cases hq : quotedM s with
          | none => rw [hq] at h; cases h
          | some q => rw [hq] at h; cases h; rfl
        · split at h
          · cases h
          · split at h
            · cases h; rfl
            · cases h
    rw [hk]
    simp only [Wds.count, Wds.depth]
    omega
  | succ n ih =>
    intro st w st' h
    have hs := wordM_size h
    by_cases hk : w.kids = .nil
    · rw [hk]
      simp only [Wds.count, Wds.depth]
      omega
    · obtain ⟨cur, rest⟩ := st
      rw [wordM.eq_def] at h
      cases cur with
      | nil =>
        cases rest with
        | nil => cases h
        | cons p r => obtain ⟨l, t⟩ := p; cases h; exact absurd rfl hk
      | cons c s =>
        simp only [] at h
        split at h
        · cases hq : quotedM s with
          | none => rw [hq] at h; cases h
          | some q => rw [hq] at h; cases h; exact absurd rfl hk
        · split at h
          · cases h1 : nextM 41 ⟨s, rest⟩ with
            | some q => rw [h1] at h; cases h; exact absurd rfl hk
            | none =>
              rw [h1] at h
              simp only [] at h
              cases h2 : loopW (wordM n) (St.size ⟨s, rest⟩ + 1) ⟨s, rest⟩ with
              | none => rw [h2] at h; cases h
              | some q =>
                obtain ⟨ws, st1⟩ := q
                rw [h2] at h
                simp only [] at h
                have s2 := loopW_cd (fun _ _ _ e => ih e) h2
                cases h3 : nextM 41 st1 with
                | none => rw [h3] at h; cases h
                | some st2 =>
                  rw [h3] at h
                  cases h
                  have s3 := nextM_size h3
                  have : St.size ⟨c :: s, rest⟩ = St.size ⟨s, rest⟩ + 1 := by simp only [St.size, List.length_cons]; omega
                  show ws.count + 1 + St.size st' ≤ _ ∧ ws.depth ≤ n + 1
                  omega
          · split at h
            · cases h; exact absurd rfl hk
            · cases h
theorem parseM_cd {t : List Nat} {ts lits : List (List Nat)} {ws : Wds} (h : parseM (t :: ts) lits = some ws) : ws.count ≤ bytesL (t :: ts) ∧ ws.depth ≤ 9 := by
  unfold parseM at h
  simp only [] at h
  split at h
  · cases h1 : loopW (wordM 8) (St.size ⟨t, lits.zip ts⟩ + 1) ⟨t, lits.zip ts⟩ with
    | none => rw [h1] at h; cases h
    | some q =>
      obtain ⟨w, st⟩ := q
      rw [h1] at h
      simp only [] at h
      split at h
      · cases h
        have := loopW_cd (fun _ _ _ e => wordM_cd (n := 8) e) h1
        have := St_size (t := t) (ts := ts) (lits := lits)
        omega
      · cases h
  · cases h
theorem endM_got {most : Int} {B : Nat} {r : Rd} (k : RdOk most B r) : ∀ g ∈ (endM most r).2, g.words.count ≤ B + 1 ∧ g.words.depth ≤ 9 := by
  intro g hg
  have hmu := k.mu
  unfold Rd.mu at hmu
  have hc := cutCR_le r.now
  unfold endM at hg
  cases h : markerM (cutCR r.now) with
  | none =>
    rw [h] at hg
    simp only [] at hg
    cases hp : parseM (r.texts ++ [cutCR r.now]) r.lits with
    | none =>
      rw [hp] at hg
      rw [List.mem_singleton.1 hg]
      simp [Wds.count, Wds.depth]
    | some ws =>
      rw [hp] at hg
      rw [List.mem_singleton.1 hg]
      show ws.count ≤ _ ∧ ws.depth ≤ 9
      have : bytesL (r.texts ++ [cutCR r.now]) ≤ B + 1 := by rw [bytesL_append, bytesL_one]; omega
      cases ht : r.texts ++ [cutCR r.now] with
      | nil => simp at ht
      | cons t ts =>
        rw [ht] at hp this
        have := parseM_cd hp
        omega
  | some x =>
    obtain ⟨a, n, p⟩ := x
    rw [h] at hg
    simp only [] at hg
    have nil : ∀ k : Int, (⟨k, .nil⟩ : Got).words.count ≤ B + 1 ∧ (⟨k, .nil⟩ : Got).words.depth ≤ 9 := fun k => by simp [Wds.count, Wds.depth]
    split at hg
    · split at hg
      · rw [List.mem_singleton.1 hg]; exact nil 3
      · rw [List.mem_singleton.1 hg]; exact nil 3
    · simp only [] at hg
      split at hg
      · cases hg
      · rw [List.mem_singleton.1 hg]; exact nil 2
theorem feedsM_got {most : Int} (hm : 0 ≤ most) : ∀ {b : List Nat} {B : Nat} {r : Rd}, RdOk most B r → (∀ c ∈ b, c < 256) → ∀ g ∈ (feedsM most r b).2, g.words.count ≤ B + 2 * b.length + 1 ∧ g.words.depth ≤ 9
  | [], B, r, k, _, g, hg => by cases hg
  | c :: b, B, r, k, hb, g, hg => by
    rw [Ln.feedsM] at hg
    rcases List.mem_append.1 hg with hg | hg
    · have key : g.words.count ≤ B + 1 ∧ g.words.depth ≤ 9 := by
        unfold feedM at hg
        split at hg
        · cases hg
        · split at hg
          · split at hg <;> cases hg
          · split at hg
            · cases hg
            · split at hg
              · exact endM_got k g hg
              · split at hg
                · rw [List.mem_singleton.1 hg]; simp [Wds.count, Wds.depth]
                · cases hg
      simp only [List.length_cons]
      omega
    · have := feedsM_got hm (k.feedM hm (hb c (by simp))) (fun d hd => hb d (by simp [hd])) g hg
      simp only [List.length_cons]
      omega
theorem feedsM_len (most : Int) : ∀ (b : List Nat) (r : Rd), (feedsM most r b).2.length ≤ b.length
  | [], r => Nat.le_refl _
  | c :: b, r => by
    have ih := feedsM_len most b (feedM most r c).1
    rw [feedsM, List.length_append, List.length_cons]
    have : (feedM most r c).2.length ≤ 1 := by
      unfold feedM endM
      repeat' split
      all_goals simp
    omega
end Go.Ln

noncomputable section
namespace Go.Proofs.Ytgnfkfmhjgbhhaa
open Go Go.Proofs Go.Vm Go.Ln
set_option linter.unusedVariables false
set_option maxRecDepth 100000
set_option linter.unusedSimpArgs false
theorem get_depth : ∀ {ws : Wds} {k : Nat} {w : Wd}, ws.get? k = some w → w.kids.depth < ws.depth ∧ w.kids.count < ws.count
  | .nil, _, _, h => by cases h
  | .cons _ _ ks r, 0, w, h => by
    cases h
    simp only [Wds.depth, Wds.count]
    omega
  | .cons _ _ ks r, n + 1, w, h => by
    have := get_depth (ws := r) h
    simp only [Wds.depth, Wds.count]
    omega
theorem get_some : ∀ {ws : Wds} {k : Nat}, k < ws.len → ∃ w, ws.get? k = some w
  | .nil, _, h => by simp [Wds.len] at h
  | .cons k t ks r, 0, h => ⟨_, rfl⟩
  | .cons _ _ _ r, n + 1, h => get_some (ws := r) (by simp only [Wds.len] at h; omega)
/-- lists of words that stand for the same -/
theorem words_same : ∀ (n : Nat) {ws : Wds} {P Q : Pos → Prop} {va vb : V} {h : Hp}, ws.depth < n → ws.count < 4000000000000000000 → WRow P h va ws → WRow Q h vb ws → TryH n [va, vb] h = .ok (.bool true) h
  | 0, ws, P, Q, va, vb, h, hd, _, _, _ => by omega
  | n + 1, ws, P, Q, va, vb, h, hd, hc, wa, wb => by
    suffices hs : Tells Try.prog [.tmp 4] (fun v g => v = .bool true ∧ g = h) (Tryd18 (TryH n) (T.set (some vb) (Pos.of 1) (T.set (some va) (Pos.of 0) T.nil)) h) by
      rw [TryH, TryF18_eq]
      obtain ⟨r, h', e, rfl, rfl⟩ := hs
      exact e
    have la : ∀ h', oLenK 2 va h' = .ok (.int .i64 (ws.len : Int)) h' := fun h' => WRow.len wa h'
    have lb : ∀ h', oLenK 2 vb h' = .ok (.int .i64 (ws.len : Int)) h' := fun h' => WRow.len wb h'
    have hlc := Wds.len_count ws
    simp (disch := omega) only [seqO_eq, thenO_nor, gtO_some, bndO_ok, get_set_of, cndX_tmp, ifB_false, blkO_eq, Nat.reduceEqDiff, Nat.zero_ne_one, reduceCtorEq, ↓reduceIte, oBin_neq, decide_false, ne_eq, not_true, Tryd18, Tryr18_0, Tryr18_1, Tryr18_3, la, lb]
    refine Oc.then (loop_rule (n := ws.len) (fun m fr g => ∃ i : Nat, fr.get (Pos.of 0) = some va ∧ fr.get (Pos.of 1) = some vb ∧ fr.get (Pos.of 5) = some (.int .i64 (i : Int)) ∧ i + m = ws.len ∧ g = h)
      (A := fun fr g => g = h) (B := fun _ _ => False) (by rw [lf_eq]; omega) ?_ ?_) ?_ ?_
    · exact ⟨0, by simp only [get_set_of, Nat.zero_ne_one, reduceCtorEq, ↓reduceIte], by simp only [get_set_of, Nat.reduceEqDiff, ↓reduceIte], by simp only [get_set_of, ↓reduceIte]; rfl, by omega, rfl⟩
    · rintro m fr g ⟨i, f0, f1, f5, hi, rfl⟩
      by_cases hlt : i < ws.len
      · have hlt' : (i : Int) < (ws.len : Int) := by omega
        obtain ⟨w, hw⟩ := get_some hlt
        obtain ⟨j, q, u, a1, a2, a3, a4, a5⟩ := WRow.at wa hw
        obtain ⟨j', q', u', b1, b2, b3, b4, b5⟩ := WRow.at wb hw
        have hg := get_depth hw
        have ih := words_same n (by omega) (by omega) a5 b5
        simp (disch := omega) only [seqO_eq, thenO_nor, gtO_some, bndO_ok, get_set_of, cndX_tmp, ifB_true, ifB_false, blkO_eq, blkX_nor, Nat.reduceEqDiff, reduceCtorEq, ↓reduceIte, oBin_add, oBin_neq, oBin_lss, oUn_not, oFieldAddr_eq, bumpH_zero, Bool.not_true, oBin_str_neq, bumpH_zero, decide_true, decide_false, ne_eq, not_true, Tryb18_4, Tryr18_4, Tryr18_6, Tryr18_5, f0, f1, f5, la, hlt', a1, b1, Nat.add_zero, a2, b2, a3, b3, a4, b4, ih]
        exact ⟨m - 1, by omega, i + 1, by simp only [get_set_of, reduceCtorEq, ↓reduceIte, f0], by simp only [get_set_of, Nat.reduceEqDiff, ↓reduceIte, f1], by simp only [get_set_of, ↓reduceIte]; rfl, by omega, rfl⟩
      · have hlt' : ¬ (i : Int) < (ws.len : Int) := by omega
        simp (disch := omega) only [seqO_eq, thenO_nor, thenO_ex, gtO_some, bndO_ok, get_set_of, cndX_tmp, ifB_false, ↓reduceIte, oBin_lss, decide_false, Tryb18_4, Tryr18_4, f0, f5, la, hlt']
        exact ⟨rfl, rfl⟩
    · rintro fr g rfl
      simp (disch := omega) only [seqO_eq, thenO_nor, Tryr18_8]
      exact Tells.ret (by simp only [resK, get_set_of, ↓reduceIte, tupR] <;> rfl) ⟨rfl, rfl⟩
    · rintro fr g q
      exact q.elim
theorem words_same_r {ws : Wds} {P Q : Pos → Prop} {va vb : V} {h : Hp} (hd : ws.depth ≤ 9) (hc : ws.count < 4000000000000000000) (wa : WRow P h va ws) (wb : WRow Q h vb ws) : TryF18r [va, vb] h = .ok (.bool true) h :=
  words_same 20 (by omega) hc wa wb
/-- what was told so far, in a row that grows -/
def COk (b : Nat) (S : Pos → Prop) (g : Hp) (vc : V) (gs : List Ln.Got) : Prop := ∃ cs, Own 0 g 2 vc gs.length cs ∧ (∀ j, idOf vc = some j → b ≤ j.nat ∧ ¬ S j) ∧ GAt (fun j => b ≤ j.nat ∧ ¬ S j ∧ idOf vc ≠ some j) g gs cs
theorem COk.nil (b : Nat) (S : Pos → Prop) (g : Hp) : COk b S g .nils [] := ⟨[], Own.nil _ _ _, fun j q => (by cases q), rfl⟩
theorem COk.told {b : Nat} {S : Pos → Prop} {g : Hp} {vc : V} {gs : List Ln.Got} (t : COk b S g vc gs) : Told (fun j => b ≤ j.nat ∧ ¬ S j) g vc gs := by
  obtain ⟨cs, o, i, w⟩ := t
  exact ⟨cs, o, i, w.ch (Ch.refl (fun _ => False) _) fun j _ q => ⟨⟨q.1, q.2.1⟩, fun q => q⟩⟩
theorem COk.app {b : Nat} {S S' : Pos → Prop} {g g' : Hp} {vc x : V} {gs gs2 : List Ln.Got} (t : COk b S g vc gs) (p : Stp S g S' g') (hS : ∀ j, S' j → j.nat < g'.next.nat) (hb : b ≤ g.next.nat) (tx : Told (fun j => g.next.nat ≤ j.nat ∧ ¬ S' j) g' x gs2) (hl : gs.length + gs2.length < 1000000000) :
    ∃ vc' g2, oAppend 2 32 vc x g' = .ok vc' g2 ∧ COk b S' g2 vc' (gs ++ gs2) ∧ Ch (fun j => b ≤ j.nat ∧ ¬ S' j) g' g2 := by
  obtain ⟨cs, o, i, w⟩ := t
  obtain ⟨cs2, o2, i2, w2⟩ := tx
  have nR : ∀ j, ¬ S j → j.nat < g.next.nat → ¬ S' j := fun j hn hj q => by
    rcases p.sub j q with q | q
    · exact hn q
    · omega
  have o1 : Own 0 g' 2 vc gs.length cs := o.ch p.ch fun j hj => (i j hj).2
  have i1 : ∀ j, idOf vc = some j → b ≤ j.nat ∧ ¬ S' j := fun j hj => ⟨(i j hj).1, nR j (i j hj).2 (o.idlt hj).2⟩
  have w1 : GAt (fun j => b ≤ j.nat ∧ ¬ S' j ∧ idOf vc ≠ some j) g' gs cs := w.ch p.ch fun j hj q => ⟨⟨q.1, nR j q.2.1 hj, q.2.2⟩, q.2.1⟩
  have w2' : GAt (fun j => b ≤ j.nat ∧ ¬ S' j ∧ idOf vc ≠ some j) g' gs2 cs2 := w2.ch (Ch.refl (fun _ => False) _) fun j hj q => by
    have q1 : g.next.nat ≤ j.nat := q.1
    exact ⟨⟨by omega, q.2, fun q' => by have := (o.idlt q').2; omega⟩, fun q => q⟩
  by_cases h0 : gs2.length = 0
  · have hg : gs2 = [] := List.length_eq_zero_iff.1 h0
    subst hg
    have hcs : cs2 = [] := w2
    subst hcs
    have e0 := app0_ok (bt := 32) o1 o2.sl
    rw [List.append_nil]
    exact ⟨vc, g', e0, ⟨cs, o1, i1, w1⟩, Ch.refl _ _⟩
  · obtain ⟨vc', g2, e1, e2, e3, o3, c2⟩ := app_ok (bt := 32) o1 o2.sl (by omega) (by omega)
    have hvc' : ∀ j, idOf vc' = some j → j = g'.next := fun j hj => by rw [e2] at hj; cases hj; rfl
    have hn2 := p.ch.next
    refine ⟨vc', g2, e1, ⟨cs ++ cs2, by rw [List.length_append]; exact o3, fun j hj => ?_, GAt.app ?_ ?_⟩, c2.mono fun j _ q => i1 j q⟩
    · rw [hvc' j hj]
      exact ⟨by omega, fun q => by have := hS _ q; omega⟩
    · exact w2'.ch c2 fun j hj q => ⟨⟨q.1, q.2.1, fun q' => by rw [hvc' j q'] at hj; omega⟩, q.2.2⟩
    · exact w1.ch c2 fun j hj q => ⟨⟨q.1, q.2.1, fun q' => by rw [hvc' j q'] at hj; omega⟩, q.2.2⟩
end Go.Proofs.Ytgnfkfmhjgbhhaa

noncomputable section
namespace Go.Proofs.Ytgnfkfmhjgbhhaa
open Go Go.Proofs Go.Vm
set_option linter.unusedVariables false
set_option maxRecDepth 100000
/-! 4: pillarbox/pillarboxlaw22.LinePieces -/
def Tryk4 : Nat → Bool := fun t => memN t [0, 1, 2, 6, 7, 8, 9, 10, 11, 12, 13, 14, 17, 28, 41, 75, 79, 106]
def Tryr4_0 (fr : F) (h : Hp) : Out :=
  Out.nor (T.set (some (.bool false)) (Pos.of 6) fr) h
def Tryr4_1 (fr : F) (h : Hp) : Out :=
  gtO (T.get fr (Pos.of 1)) fun v1 => bndO (oLenK 2 v1 h) fun v16 h1 =>
  bndO (oBin .gtr .none v16 (.int .i64 10000) h1) fun v17 h2 =>
  Out.nor (T.set (some v17) (Pos.of 17) fr) h2
def Tryr4_2 (fr : F) (h : Hp) : Out :=
  bndO (TryF12c [] h) fun v18 h0 =>
  Out.nor (T.set (some v18) (Pos.of 6) fr) h0
def Tryr4_3 (fr : F) (h : Hp) : Out :=
  gtO (T.get fr (Pos.of 0)) fun v0 => bndO (TryF13 [v0] h) fun v20 h1 =>
  bndO (TryF13 [v0] h1) fun v22 h3 =>
  Out.nor (T.set (some v22) (Pos.of 8) (T.set (some v20) (Pos.of 7) fr)) h3
def Tryr4_4 (fr : F) (h : Hp) : Out :=
  gtO (T.get fr (Pos.of 7)) fun v7 => bndO (oBin .eql (.ptr 11) v7 .nilp h) fun v24 h1 =>
  ifB v24 (Out.nor (T.set (some (.bool true)) (Pos.of 28) fr) h1) (gtO (T.get fr (Pos.of 8)) fun v8 => bndO (oBin .eql (.ptr 11) v8 .nilp h1) fun v27 h4 =>
  Out.nor (T.set (some v27) (Pos.of 28) fr) h4)
def Tryr4_5 (fr : F) (h : Hp) : Out :=
  Out.nor (T.set (some (.bool false)) (Pos.of 6) fr) h
def Tryr4_6 (fr : F) (h : Hp) : Out :=
  gtO (T.get fr (Pos.of 7)) fun v7 => gtO (T.get fr (Pos.of 1)) fun v1 => bndO (TryF16 [v7, v1] h) fun v31 h2 =>
  Out.nor (T.set (some v31) (Pos.of 9) fr) h2
def Tryr4_7 (fr : F) (h : Hp) : Out :=
  Out.nor (T.set (some .nils) (Pos.of 10) fr) h
def Tryr4_8 (fr : F) (h : Hp) : Out :=
  Out.nor (T.set (some (.int .i64 0)) (Pos.of 11) fr) h
def Tryr4_9 (fr : F) (h : Hp) : Out :=
  Out.nor (T.set (some (.int .i64 0)) (Pos.of 12) fr) h
def Tryr4_10 (fr : F) (h : Hp) : Out :=
  gtO (T.get fr (Pos.of 12)) fun v12 => gtO (T.get fr (Pos.of 2)) fun v2 => bndO (oLenK 2 v2 h) fun v34 h2 =>
  bndO (oBin .lss .none v12 v34 h2) fun v35 h3 =>
  ifB v35 (gtO (T.get fr (Pos.of 11)) fun v11 => gtO (T.get fr (Pos.of 1)) fun v1 => bndO (oLenK 2 v1 h3) fun v39 h7 =>
  bndO (oBin .lss .none v11 v39 h7) fun v40 h8 =>
  Out.nor (T.set (some v40) (Pos.of 41) fr) h8) (Out.nor (T.set (some (.bool false)) (Pos.of 41) fr) h3)
def Tryr4_12 (fr : F) (h : Hp) : Out :=
  gtO (T.get fr (Pos.of 1)) fun v1 => bndO (oLenK 2 v1 h) fun v45 h1 =>
  gtO (T.get fr (Pos.of 11)) fun v11 => gtO (T.get fr (Pos.of 2)) fun v2 => gtO (T.get fr (Pos.of 12)) fun v12 => bndO (oIdxS 1 v2 v12 h1) fun v49 h5 =>
  bndO (oLoad1 v49 h5) fun v50 h6 =>
  bndO (oConvInt .i64 v50 h6) fun v51 h7 =>
  bndO (oBin .rem .none v51 (.int .i64 20) h7) fun v52 h8 =>
  bndO (oBin .add .none v11 v52 h8) fun v53 h9 =>
  bndO (oMin v45 v53 h9) fun v54 h10 =>
  Out.nor (T.set (some v54) (Pos.of 13) fr) h10
def Tryr4_13 (fr : F) (h : Hp) : Out :=
  gtO (T.get fr (Pos.of 10)) fun v10 => gtO (T.get fr (Pos.of 8)) fun v8 => gtO (T.get fr (Pos.of 1)) fun v1 => gtO (T.get fr (Pos.of 11)) fun v11 => gtO (T.get fr (Pos.of 13)) fun v13 => bndO (oSlice 1 v1 (some v11) (some v13) none h) fun v60 h5 =>
  bndO (TryF16 [v8, v60] h5) fun v61 h6 =>
  bndO (oAppend 2 32 v10 v61 h6) fun v62 h7 =>
  Out.nor (T.set (some v62) (Pos.of 10) fr) h7
def Tryr4_14 (fr : F) (h : Hp) : Out :=
  gtO (T.get fr (Pos.of 13)) fun v13 => Out.nor (T.set (some v13) (Pos.of 11) fr) h
def Tryr4_11 (fr : F) (h : Hp) : Out :=
  gtO (T.get fr (Pos.of 12)) fun v12 => bndO (oBin .add .none v12 (.int .i64 1) h) fun v43 h1 =>
  Out.nor (T.set (some v43) (Pos.of 12) fr) h1
def Tryr4_15 (fr : F) (h : Hp) : Out :=
  gtO (T.get fr (Pos.of 10)) fun v10 => gtO (T.get fr (Pos.of 8)) fun v8 => gtO (T.get fr (Pos.of 1)) fun v1 => gtO (T.get fr (Pos.of 11)) fun v11 => bndO (oSlice 1 v1 (some v11) none none h) fun v68 h4 =>
  bndO (TryF16 [v8, v68] h4) fun v69 h5 =>
  bndO (oAppend 2 32 v10 v69 h5) fun v70 h6 =>
  Out.nor (T.set (some v70) (Pos.of 10) fr) h6
def Tryr4_16 (fr : F) (h : Hp) : Out :=
  gtO (T.get fr (Pos.of 9)) fun v9 => bndO (oLenK 2 v9 h) fun v72 h1 =>
  gtO (T.get fr (Pos.of 10)) fun v10 => bndO (oLenK 2 v10 h1) fun v74 h3 =>
  bndO (oBin .neq .none v72 v74 h3) fun v75 h4 =>
  Out.nor (T.set (some v75) (Pos.of 75) fr) h4
def Tryr4_17 (fr : F) (h : Hp) : Out :=
  Out.nor (T.set (some (.bool false)) (Pos.of 6) fr) h
def Tryr4_18 (fr : F) (h : Hp) : Out :=
  Out.nor (T.set (some (.int .i64 0)) (Pos.of 14) fr) h
def Tryr4_19 (fr : F) (h : Hp) : Out :=
  gtO (T.get fr (Pos.of 14)) fun v14 => gtO (T.get fr (Pos.of 9)) fun v9 => bndO (oLenK 2 v9 h) fun v78 h2 =>
  bndO (oBin .lss .none v14 v78 h2) fun v79 h3 =>
  Out.nor (T.set (some v79) (Pos.of 79) fr) h3
def Tryr4_21 (fr : F) (h : Hp) : Out :=
  gtO (T.get fr (Pos.of 9)) fun w0_9 => gtO (T.get fr (Pos.of 14)) fun w1_14 => bndO (oIdxS 2 w0_9 w1_14 (bumpH 0 h)) fun v84 _ =>
  bndO (oFieldAddr 0 v84 (bumpH 0 h)) fun v85 _ =>
  bndO (oLoad1 v85 (bumpH 0 h)) fun v86 _ =>
  gtO (T.get fr (Pos.of 10)) fun w5_10 => gtO (T.get fr (Pos.of 14)) fun w6_14 => bndO (oIdxS 2 w5_10 w6_14 (bumpH 0 h)) fun v89 _ =>
  bndO (oFieldAddr 0 v89 (bumpH 0 h)) fun v90 _ =>
  bndO (oLoad1 v90 (bumpH 0 h)) fun v91 _ =>
  bndO (oBin .neq .none v86 v91 (bumpH 0 h)) fun v92 _ =>
  ifB v92 (Out.nor (T.set (some (.bool true)) (Pos.of 106) fr) (bumpH 0 h)) (gtO (T.get fr (Pos.of 9)) fun w12_9 => gtO (T.get fr (Pos.of 14)) fun w13_14 => bndO (oIdxS 2 w12_9 w13_14 (bumpH 0 h)) fun v96 _ =>
  bndO (oFieldAddr 1 v96 (bumpH 0 h)) fun v97 _ =>
  bndO (oLoad1 v97 (bumpH 0 h)) fun v98 _ =>
  gtO (T.get fr (Pos.of 10)) fun w17_10 => gtO (T.get fr (Pos.of 14)) fun w18_14 => bndO (oIdxS 2 w17_10 w18_14 (bumpH 0 h)) fun v101 _ =>
  bndO (oFieldAddr 1 v101 (bumpH 0 h)) fun v102 _ =>
  bndO (oLoad1 v102 (bumpH 0 h)) fun v103 _ =>
  bndO (TryF18r [v98, v103] (bumpH 0 h)) fun v104 h22 =>
  bndO (oUn .not v104 h22) fun v105 _ =>
  Out.nor (T.set (some v105) (Pos.of 106) fr) h22)
def Tryr4_22 (fr : F) (h : Hp) : Out :=
  Out.nor (T.set (some (.bool false)) (Pos.of 6) fr) h
def Tryr4_20 (fr : F) (h : Hp) : Out :=
  gtO (T.get fr (Pos.of 14)) fun v14 => bndO (oBin .add .none v14 (.int .i64 1) h) fun v81 h1 =>
  Out.nor (T.set (some v81) (Pos.of 14) fr) h1
def Tryr4_23 (fr : F) (h : Hp) : Out :=
  bndO (TryF12c [] h) fun v107 h0 =>
  Out.nor (T.set (some v107) (Pos.of 6) fr) h0
def Tryb4_10 : F → Hp → Out := (seqO (seqO Tryr4_10 (cndX (.tmp 41) Out.nor (Out.ex 0))) (seqO (blkO 1 (seqO Tryr4_12 (seqO Tryr4_13 Tryr4_14))) Tryr4_11))
def Tryb4_19 : F → Hp → Out := (seqO (seqO Tryr4_19 (cndX (.tmp 79) Out.nor (Out.ex 2))) (seqO (blkO 3 (seqO Tryr4_21 (cndX (.tmp 106) (seqO Tryr4_22 Out.ret) Out.nor))) Tryr4_20))
def Tryd4 : F → Hp → Out := (seqO Tryr4_0 (seqO (seqO Tryr4_1 (cndX (.tmp 17) (seqO Tryr4_2 Out.ret) Out.nor)) (seqO Tryr4_3 (seqO (seqO Tryr4_4 (cndX (.tmp 28) (seqO Tryr4_5 Out.ret) Out.nor)) (seqO Tryr4_6 (seqO Tryr4_7 (seqO Tryr4_8 (seqO (seqO Tryr4_9 (blkO 0 (loopO Tryb4_10 lf))) (seqO Tryr4_15 (seqO (seqO Tryr4_16 (cndX (.tmp 75) (seqO Tryr4_17 Out.ret) Out.nor)) (seqO (seqO Tryr4_18 (blkO 2 (loopO Tryb4_19 lf))) (seqO Tryr4_23 Out.ret))))))))))))
def Trye4 : FuncId → Option Fun := fun f => match Nat.beq f 12 with | true => some TryF12c | false => match Nat.beq f 13 with | true => some TryF13 | false => match Nat.beq f 16 with | true => some TryF16 | false => match Nat.beq f 18 with | true => some TryF18r | false => none
def Tryp4 : Plans := fun id => match Nat.beq id 21 with | true => some ([0, 0, 3, 7, 15, 0, 0, 96, 224, 480, 1023, 2047, 4095, 4095, 16383, 32767, 65535, 4095, 4095, 397311, 921599, 1970175, 4194303, 8388607, 16777215], [(0, .pure), (1, .pure), (2, .pure), (3, .pure), (4, .read 0), (5, .pure), (6, .pure), (7, .pure), (8, .pure), (9, .read 0), (10, .pure), (11, .pure), (12, .pure), (13, .pure), (14, .pure), (15, .pure), (16, .read 0), (17, .pure), (18, .pure), (19, .pure), (20, .pure), (21, .read 0), (22, .heavy), (23, .pure), (24, .pure)]) | false => none
def TryF4 : Fun := funX Try.prog 0 Tryk4 Trye4 Tryp4 lf Try.f4
theorem TryD4 : denX Try.prog 0 Try.f4.ntmps Tryk4 Trye4 Tryp4 lf (codeOf Try.f4) = Tryd4 := by kernel_rfl
theorem TryF4_eq (x0 x1 x2 : V) (h : Hp) : TryF4 [x0, x1, x2] h = outR Try.prog [.tmp 6] (Tryd4 (T.set (some x2) (Pos.of 2) (T.set (some x1) (Pos.of 1) (T.set (some x0) (Pos.of 0) T.nil))) h) := funX_eq (by kernel_rfl) TryD4 (by kernel_rfl) h
theorem Tryc4 : CallOk Try.prog 0 4 TryF4 := funX_ok Trymix (callsOk_cons Tryc12c (callsOk_cons Tryc13 (callsOk_cons Tryc16 (callsOk_cons Tryc18r callsOk_0)))) Try.func4 (by kernel_rfl)

end Go.Proofs.Ytgnfkfmhjgbhhaa

noncomputable section
namespace Go.Vm
theorem Stp.late {S S1 C : Pos → Prop} {h h1 h2 : Hp} (x : Stp S h S1 h1) (c : Ch C h1 h2) (hc : ∀ j, C j → h.next.nat ≤ j.nat) : Stp S h S1 h2 :=
  ⟨⟨Nat.le_trans x.ch.next c.next, fun j hj hn => (c.get j (Nat.lt_of_lt_of_le hj x.ch.next) (fun q => by have := hc j q; omega)).trans (x.ch.get j hj hn)⟩, x.sub⟩
/-- a part of a row -/
theorem Sl.mid {h : Hp} {sz n b : Nat} {v : V} {cs : List V} (s : Sl b h sz v n cs) (hc : capOk sz v) (hsz : 0 < sz) {lo hi : Nat} (h1 : lo ≤ hi) (h2 : hi ≤ n) (h3 : 0 < n) :
    ∃ v', (∀ h', oSlice sz v (some (.int .i64 (lo : Int))) (some (.int .i64 (hi : Int))) none h' = .ok v' h') ∧ Sl b h sz v' (hi - lo) ((cs.drop (lo * sz)).take ((hi - lo) * sz)) ∧ capOk sz v' ∧ ∀ i, idOf v' = some i → idOf v = some i := by
  have hne : v ≠ .nils ∧ v ≠ .emp := by
    rcases s.is with ⟨h0, _⟩ | ⟨i, o, c, wr, all, rfl, _⟩
    · omega
    · exact ⟨fun e => (by cases e), fun e => (by cases e)⟩
  obtain ⟨v', e1, e2, e3, e4⟩ := s.cut hc hsz h1 h2 hne
  refine ⟨v', fun h' => ?_, e2, e3, e4⟩
  rw [← e1 h']
  rcases s.is with ⟨h0, _⟩ | ⟨i, o, c, wr, all, rfl, _⟩
  · omega
  · rfl
end Go.Vm
namespace Go.Proofs.Ytgnfkfmhjgbhhaa
open Go Go.Proofs Go.Vm Go.Ln
set_option linter.unusedVariables false
set_option maxRecDepth 100000
set_option linter.unusedSimpArgs false
/-- two rows of what was told, held against each other -/
theorem pieces_cmp {gs : List Ln.Got} {P Q : Pos → Prop} {g : Hp} {va vb : V} (ta : Told P g va gs) (tb : Told Q g vb gs) (hl : gs.length < 1000000000) (hw : ∀ x ∈ gs, x.words.count < 4000000000000000000 ∧ x.words.depth ≤ 9)
    {fr : F} (f9 : fr.get (Pos.of 9) = some va) (f10 : fr.get (Pos.of 10) = some vb) :
    Tells Try.prog [.tmp 6] (fun v _ => v = .bool true) ((seqO (seqO Tryr4_16 (cndX (.tmp 75) (seqO Tryr4_17 Out.ret) Out.nor)) (seqO (seqO Tryr4_18 (blkO 2 (loopO Tryb4_19 lf))) (seqO Tryr4_23 Out.ret))) fr g) := by
  have la := ta.len
  have lb := tb.len
  simp (disch := omega) only [seqO_eq, thenO_nor, gtO_some, bndO_ok, get_set_of, cndX_tmp, ifB_false, blkO_eq, ↓reduceIte, oBin_neq, decide_false, ne_eq, not_true, Tryr4_16, Tryr4_18, f9, f10, la, lb]
  refine Oc.then (loop_rule (n := gs.length) (fun m fr g' => ∃ i : Nat, fr.get (Pos.of 9) = some va ∧ fr.get (Pos.of 10) = some vb ∧ fr.get (Pos.of 14) = some (.int .i64 (i : Int)) ∧ i + m = gs.length ∧ g' = g)
    (A := fun fr g' => g' = g) (B := fun _ _ => False) (by rw [lf_eq]; omega) ?_ ?_) ?_ ?_
  · exact ⟨0, by simp only [get_set_of, Nat.reduceEqDiff, ↓reduceIte, f9], by simp only [get_set_of, Nat.reduceEqDiff, ↓reduceIte, f10], by simp only [get_set_of, ↓reduceIte]; rfl, by omega, rfl⟩
  · rintro m fr g' ⟨i, f9, f10, f14, hi, rfl⟩
    by_cases hlt : i < gs.length
    · have hlt' : (i : Int) < (gs.length : Int) := by omega
      have hx := List.getElem?_eq_getElem hlt
      obtain ⟨j, q, u, a1, a2, a3, a4⟩ := ta.at hx
      obtain ⟨j', q', u', b1, b2, b3, b4⟩ := tb.at hx
      have hh := hw _ (List.getElem_mem hlt)
      have cmp := words_same_r hh.2 hh.1 a4 b4
      simp (disch := omega) only [seqO_eq, thenO_nor, gtO_some, bndO_ok, get_set_of, cndX_tmp, ifB_true, ifB_false, blkO_eq, blkX_nor, Nat.reduceEqDiff, ↓reduceIte, oBin_add, oBin_neq, oBin_lss, oUn_not, oFieldAddr_eq, bumpH_zero, Bool.not_true, bumpH_zero, decide_true, decide_false, ne_eq, not_true, Tryb4_19, Tryr4_19, Tryr4_21, Tryr4_20, f9, f10, f14, la, hlt', a1, b1, Nat.add_zero, a2, b2, a3, b3, cmp]
      exact ⟨m - 1, by omega, i + 1, by simp only [get_set_of, Nat.reduceEqDiff, ↓reduceIte, f9], by simp only [get_set_of, Nat.reduceEqDiff, ↓reduceIte, f10], by simp only [get_set_of, ↓reduceIte]; rfl, by omega, rfl⟩
    · have hlt' : ¬ (i : Int) < (gs.length : Int) := by omega
      simp (disch := omega) only [seqO_eq, thenO_nor, thenO_ex, gtO_some, bndO_ok, get_set_of, cndX_tmp, ifB_false, ↓reduceIte, oBin_lss, decide_false, Tryb4_19, Tryr4_19, f9, f14, la, hlt']
      exact ⟨rfl, rfl⟩
  · rintro fr g' rfl
    simp (disch := omega) only [seqO_eq, thenO_nor, bndO_ok, Tryr4_23, awake_eq]
    exact Tells.ret (by simp only [resK, get_set_of, ↓reduceIte, tupR] <;> rfl) rfl
  · rintro fr g' q
    exact q.elim
theorem pieces_ok {most : Int} (hmost : -9223372036854775808 ≤ most ∧ most < 9223372036854775808) {bs cuts : List Nat} {v1 v2 : V} {c : Nat} {h : Hp} (s1 : Sl c h 1 v1 bs.length (bys bs)) (cap1 : capOk 1 v1) (s2 : Sl c h 1 v2 cuts.length (bys cuts)) (hc : c ≤ h.next.nat)
    (b256 : ∀ x ∈ bs, x < 256) (c256 : ∀ x ∈ cuts, x < 256) (lb : bs.length < 9223372036854775808) (lc : cuts.length < 9223372036854775808) : ∃ h', TryF4 [.int .i64 most, v1, v2] h = .ok (.bool true) h' := by
  suffices hs : Tells Try.prog [.tmp 6] (fun v _ => v = .bool true) (Tryd4 (T.set (some v2) (Pos.of 2) (T.set (some v1) (Pos.of 1) (T.set (some (.int .i64 most)) (Pos.of 0) T.nil))) h) by
    rw [TryF4_eq]
    obtain ⟨r, h', e, rfl⟩ := hs
    exact ⟨h', e⟩
  by_cases hbig : bs.length > 10000
  · have hbig' : (bs.length : Int) > 10000 := by omega
    simp (disch := omega) only [seqO_eq, thenO_nor, thenO_ret, gtO_some, bndO_ok, get_set_of, cndX_tmp, ifB_true, Nat.reduceEqDiff, ↓reduceIte, oBin_gtr, decide_true, Tryd4, Tryr4_0, Tryr4_1, Tryr4_2, s1.length, hbig', awake_eq]
    exact Tells.ret (by simp only [resK, get_set_of, ↓reduceIte, tupR] <;> rfl) rfl
  have hbig' : ¬ (bs.length : Int) > 10000 := by omega
  obtain ⟨M, hM⟩ : ∃ M, M = max most 1 := ⟨_, rfl⟩
  have hM0 : 0 ≤ M := by omega
  have hM1 : M < 9223372036854775808 := by omega
  obtain ⟨g1, n1, a1, c1, l1⟩ := new_ok most h
  obtain ⟨g2, n2, a2, c2, l2⟩ := new_ok most g1
  rw [← hM] at a1 a2
  have k0 : RdOk M 0 {} := RdOk.fresh hM0 hM1 (Nat.zero_le _)
  have c02 : Ch (fun _ => False) h g2 := c1.trans c2 fun _ _ q => q
  have s1' := s1.ch c02 hc fun _ _ q => q
  obtain ⟨v9, g3, vt0, vl0, vn0, vq0, e9, x3, p3, t3⟩ := feed_b hM0 (a1.ch c2 fun _ _ q => q) k0 s1' (by omega) cap1 (fun j hj q => by have h1 := s1.idlt hj; have h2 := congrArg Pos.nat (RdF0 q); omega) (by omega) b256
  have y3 : RdAt M g3 g1.next {} .nils .nils .nils .nils := a2.ch p3.ch fun j q q' => by
    have h1 := congrArg Pos.nat (RdF0 q)
    have h2 := congrArg Pos.nat (RdF0 q')
    omega
  have c03 : Ch (fun _ => False) h g3 := ⟨Nat.le_trans c02.next p3.ch.next, fun j hj hn => by
    rw [p3.ch.get j (by omega) (fun q => by have := congrArg Pos.nat (RdF0 q); omega), c02.get j hj hn]⟩
  have n23 := p3.ch.next
  -- what is left untouched behind
  have chOf : ∀ {S : Pos → Prop} {g : Hp}, Stp (RdF g1.next .nils .nils .nils .nils) g3 S g → Ch (fun _ => False) h g := fun p => ⟨Nat.le_trans c03.next p.ch.next, fun j hj hn => by
    have := c03.next
    rw [p.ch.get j (by omega) (fun q => by have := congrArg Pos.nat (RdF0 q); omega), c03.get j hj hn]⟩
  simp (disch := omega) only [seqO_eq, thenO_nor, gtO_some, bndO_ok, get_set_of, cndX_tmp, ifB_false, blkO_eq, Nat.reduceEqDiff, Nat.zero_ne_one, reduceCtorEq, ↓reduceIte, oBin_gtr, decide_false, Tryd4, Tryr4_0, Tryr4_1, Tryr4_3, Tryr4_4, Tryr4_6, Tryr4_7, Tryr4_8, Tryr4_9, s1.length, hbig', n1, n2, nilcmp, e9]
  refine Oc.then (loop_rule (n := cuts.length) (fun m fr g => ∃ (i p : Nat) (vc vt vl vn vq : V), fr.get (Pos.of 1) = some v1 ∧ fr.get (Pos.of 2) = some v2 ∧ fr.get (Pos.of 8) = some (.ptr g1.next 0) ∧ fr.get (Pos.of 9) = some v9 ∧ fr.get (Pos.of 10) = some vc ∧ fr.get (Pos.of 11) = some (.int .i64 (p : Int)) ∧ fr.get (Pos.of 12) = some (.int .i64 (i : Int)) ∧
      i + m = cuts.length ∧ p ≤ bs.length ∧ RdAt M g g1.next (feedsM M {} (bs.take p)).1 vt vl vn vq ∧ Stp (RdF g1.next .nils .nils .nils .nils) g3 (RdF g1.next vt vl vn vq) g ∧ COk g3.next.nat (RdF g1.next vt vl vn vq) g vc (feedsM M {} (bs.take p)).2)
    (A := fun fr g => ∃ (p : Nat) (vc vt vl vn vq : V), fr.get (Pos.of 1) = some v1 ∧ fr.get (Pos.of 8) = some (.ptr g1.next 0) ∧ fr.get (Pos.of 9) = some v9 ∧ fr.get (Pos.of 10) = some vc ∧ fr.get (Pos.of 11) = some (.int .i64 (p : Int)) ∧
      p ≤ bs.length ∧ RdAt M g g1.next (feedsM M {} (bs.take p)).1 vt vl vn vq ∧ Stp (RdF g1.next .nils .nils .nils .nils) g3 (RdF g1.next vt vl vn vq) g ∧ COk g3.next.nat (RdF g1.next vt vl vn vq) g vc (feedsM M {} (bs.take p)).2)
    (B := fun _ _ => False) (by rw [lf_eq]; omega) ?_ ?_) ?_ ?_
  · exact ⟨0, 0, .nils, .nils, .nils, .nils, .nils, by simp only [get_set_of, Nat.reduceEqDiff, ↓reduceIte], by simp only [get_set_of, Nat.reduceEqDiff, ↓reduceIte], by simp only [get_set_of, Nat.reduceEqDiff, ↓reduceIte], by simp only [get_set_of, Nat.reduceEqDiff, ↓reduceIte], by simp only [get_set_of, Nat.reduceEqDiff, ↓reduceIte], by simp only [get_set_of, Nat.reduceEqDiff, ↓reduceIte]; rfl, by simp only [get_set_of, ↓reduceIte]; rfl, by omega, Nat.zero_le _, y3, Stp.refl _ _, COk.nil _ _ _⟩
  · rintro m fr g ⟨i, p, vc, vt, vl, vn, vq, f1, f2, f8, f9, f10, f11, f12, hi, hp, y, st, ck⟩
    by_cases hlt : i < cuts.length
    · have hlt' : (i : Int) < (cuts.length : Int) := by omega
      by_cases hpl : p < bs.length
      · have hpl' : (p : Int) < (bs.length : Int) := by omega
        obtain ⟨j, q, x, hx, e1, hj, e2⟩ := s2.at1 hlt
        have hx' : x = .int .u8 ((cuts[i] : Nat) : Int) := by
          rw [bys, List.getElem?_map, List.getElem?_eq_getElem hlt] at hx
          cases hx; rfl
        subst hx'
        have ch := chOf st
        have e2' := e2 g (ch.get j (by omega) (fun q => q))
        have hci := c256 cuts[i] (List.getElem_mem hlt)
        obtain ⟨k, hk⟩ : ∃ k, k = min bs.length (p + cuts[i] % 20) := ⟨_, rfl⟩
        have er : ((cuts[i] : Nat) : Int).tmod 20 = ((cuts[i] % 20 : Nat) : Int) := by rw [Int.tmod_eq_emod_of_nonneg (by omega)]; rfl
        have ek : min (bs.length : Int) ((p : Int) + ((cuts[i] % 20 : Nat) : Int)) = (k : Int) := by omega
        have hpk : p ≤ k := by omega
        have hkb : k ≤ bs.length := by omega
        have sg := s1.ch ch hc fun _ _ q => q
        obtain ⟨v, u1, u2, u3, u4⟩ := sg.mid cap1 (by omega) hpk hkb (by omega)
        have eb : ((bys bs).drop (p * 1)).take ((k - p) * 1) = bys ((bs.drop p).take (k - p)) := by rw [Nat.mul_one, Nat.mul_one, bys_take, bys_drop]
        have el : ((bs.drop p).take (k - p)).length = k - p := by rw [List.length_take, List.length_drop]; omega
        rw [eb] at u2
        have ltp := List.length_take_le p bs
        have kk := k0.feedsM hM0 (b := bs.take p) (fun x hx => b256 x (List.mem_of_mem_take hx))
        have n03 := c03.next
        have n3g := st.ch.next
        obtain ⟨x9, g', vt', vl', vn', vq', e16, y', p', t'⟩ := feed_b hM0 y kk (s := (bs.drop p).take (k - p)) (by rw [el]; exact u2) (by omega) u3 (fun j' hj' q' => by
          have h1 := s1.idlt (u4 j' hj')
          rcases st.sub j' q' with h2 | h2
          · have := congrArg Pos.nat (RdF0 h2); omega
          · omega) (by rw [el, List.length_take]; omega) (fun x hx => b256 x (List.mem_of_mem_drop (List.mem_of_mem_take hx)))
        have ef : bs.take k = bs.take p ++ (bs.drop p).take (k - p) := by
          rw [← List.take_add, show p + (k - p) = k by omega]
        have lg1 := feedsM_len M (bs.take p) {}
        have lg2 := feedsM_len M ((bs.drop p).take (k - p)) (feedsM M {} (bs.take p)).1
        obtain ⟨vc', g'', e22, ck', c22⟩ := ck.app p' (fun j q => y'.idlt q) st.ch.next t' (by rw [List.length_take] at lg1; rw [el] at lg2; omega)
        have y'' := y'.ch c22 fun j q q' => q'.2 q
        have st' := (st.trans p').late c22 fun j q => q.1
        simp (disch := omega) only [seqO_eq, thenO_nor, gtO_some, bndO_ok, get_set_of, cndX_tmp, ifB_true, blkO_eq, blkX_nor, Nat.reduceEqDiff, ↓reduceIte, oBin_add, oBin_lss, oMin_eq, oConvInt_i64, oBin_rem, decide_true, Tryb4_10, Tryr4_10, Tryr4_12, Tryr4_13, Tryr4_14, Tryr4_11, f1, f2, f8, f10, f11, f12, s2.length, s1.length, hlt', hpl', e1, e2', er, ek, u1, e16, e22]
        refine ⟨m - 1, by omega, i + 1, k, vc', vt', vl', vn', vq', by simp only [get_set_of, Nat.reduceEqDiff, ↓reduceIte, f1], by simp only [get_set_of, Nat.reduceEqDiff, ↓reduceIte, f2], by simp only [get_set_of, Nat.reduceEqDiff, ↓reduceIte, f8], by simp only [get_set_of, Nat.reduceEqDiff, ↓reduceIte, f9], by simp only [get_set_of, Nat.reduceEqDiff, ↓reduceIte], by simp only [get_set_of, Nat.reduceEqDiff, ↓reduceIte], by simp only [get_set_of, ↓reduceIte]; rfl, by omega, hkb, ?_, st', ?_⟩
        · rw [ef, feedsM_append]; exact y''
        · rw [ef, feedsM_append]; exact ck'
      · have hpl' : ¬ (p : Int) < (bs.length : Int) := by omega
        simp (disch := omega) only [seqO_eq, thenO_nor, thenO_ex, gtO_some, bndO_ok, get_set_of, cndX_tmp, ifB_true, ifB_false, ↓reduceIte, oBin_lss, decide_true, decide_false, Tryb4_10, Tryr4_10, f1, f2, f11, f12, s2.length, s1.length, hlt', hpl']
        exact ⟨rfl, p, vc, vt, vl, vn, vq, by simp only [get_set_of, Nat.reduceEqDiff, ↓reduceIte, f1], by simp only [get_set_of, Nat.reduceEqDiff, ↓reduceIte, f8], by simp only [get_set_of, Nat.reduceEqDiff, ↓reduceIte, f9], by simp only [get_set_of, Nat.reduceEqDiff, ↓reduceIte, f10], by simp only [get_set_of, Nat.reduceEqDiff, ↓reduceIte, f11], hp, y, st, ck⟩
    · have hlt' : ¬ (i : Int) < (cuts.length : Int) := by omega
      simp (disch := omega) only [seqO_eq, thenO_nor, thenO_ex, gtO_some, bndO_ok, get_set_of, cndX_tmp, ifB_false, ↓reduceIte, oBin_lss, decide_false, Tryb4_10, Tryr4_10, f1, f2, f11, f12, s2.length, s1.length, hlt']
      exact ⟨rfl, p, vc, vt, vl, vn, vq, by simp only [get_set_of, Nat.reduceEqDiff, ↓reduceIte, f1], by simp only [get_set_of, Nat.reduceEqDiff, ↓reduceIte, f8], by simp only [get_set_of, Nat.reduceEqDiff, ↓reduceIte, f9], by simp only [get_set_of, Nat.reduceEqDiff, ↓reduceIte, f10], by simp only [get_set_of, Nat.reduceEqDiff, ↓reduceIte, f11], hp, y, st, ck⟩
  · rintro fr g ⟨p, vc, vt, vl, vn, vq, f1, f8, f9, f10, f11, hp, y, st, ck⟩
    have ch := chOf st
    have sg := s1.ch ch hc fun _ _ q => q
    obtain ⟨v, u1, u2, u3, u4⟩ := Sl.from sg cap1 (by omega) hp
    rw [Nat.mul_one, ← bys_drop] at u2
    have el : (bs.drop p).length = bs.length - p := by rw [List.length_drop]
    have ltp := List.length_take_le p bs
    have kk := k0.feedsM hM0 (b := bs.take p) (fun x hx => b256 x (List.mem_of_mem_take hx))
    have n03 := c03.next
    have n3g := st.ch.next
    obtain ⟨x9, g', vt', vl', vn', vq', e16, y', p', t'⟩ := feed_b hM0 y kk (s := bs.drop p) (by rw [el]; exact u2) (by omega) u3 (fun j' hj' q' => by
      have h1 := s1.idlt (u4 j' hj')
      rcases st.sub j' q' with h2 | h2
      · have := congrArg Pos.nat (RdF0 h2); omega
      · omega) (by rw [el, List.length_take]; omega) (fun x hx => b256 x (List.mem_of_mem_drop hx))
    have lg1 := feedsM_len M (bs.take p) {}
    have lg2 := feedsM_len M (bs.drop p) (feedsM M {} (bs.take p)).1
    obtain ⟨vc', g'', e22, ck', c22⟩ := ck.app p' (fun j q => y'.idlt q) st.ch.next t' (by rw [List.length_take] at lg1; rw [el] at lg2; omega)
    have st' := (st.trans p').late c22 fun j q => q.1
    have eg : (feedsM M {} (bs.take p)).2 ++ (feedsM M (feedsM M {} (bs.take p)).1 (bs.drop p)).2 = (feedsM M {} bs).2 := by
      have h1 := feedsM_append M {} (bs.take p) (bs.drop p)
      rw [List.take_append_drop] at h1
      rw [h1]
    rw [eg] at ck'
    have ta : Told (fun _ => True) g'' v9 (feedsM M {} bs).2 := t3.ch st'.ch fun j hj q => ⟨trivial, fun q' => by have := congrArg Pos.nat (RdF0 q'); have := q.1; omega⟩
    have lg := feedsM_len M bs {}
    have hw := feedsM_got hM0 k0 b256
    simp (disch := omega) only [seqO_eq, thenO_nor, gtO_some, bndO_ok, Tryr4_15, f1, f8, f10, f11, u1, e16, e22]
    have fin := fun fr => pieces_cmp (fr := fr) ta ck'.told (by omega) (fun x hx => by have := hw x hx; omega)
    simp only [seqO_eq] at fin
    exact fin _ (by simp only [get_set_of, Nat.reduceEqDiff, ↓reduceIte, f9]) (by simp only [get_set_of, ↓reduceIte])
  · rintro fr g q
    exact q.elim
end Go.Proofs.Ytgnfkfmhjgbhhaa
