/- Part of the value machine, or of a walk by it: lemmas that the claim's last text uses. No conditions. -/
import Derived.Test.YtnlbcbjgejpanaaGreatDoorSeVmO
import Derived.Test.YtnlbcbjgejpanaaGreatDoorSeFeH
set_option linter.unusedVariables false
set_option linter.unusedSimpArgs false
set_option linter.unnecessarySimpa false
noncomputable section
namespace Go.Ln
open Go Go.Vm Go.Proofs.Im
theorem mem_tw {p : Nat → Bool} {x : Nat} : ∀ l : List Nat, x ∈ l.takeWhile p → p x = true
  | [], h => by cases h
  | a :: l, h => by
    unfold List.takeWhile at h
    split at h
    · rename_i ha
      rcases List.mem_cons.1 h with rfl | h
      · exact ha
      · exact mem_tw l h
    · cases h
def WOk (s : List Nat) (w : Wd) : Prop := (w.kind = 1 → w.text <:+: s ∧ w.text ≠ [] ∧ ∀ c ∈ w.text, atomC c = true) ∧ w.text.Sublist s
def WsOk (s : List Nat) (ws : Wds) : Prop := ∀ k w, ws.get? k = some w → WOk s w
def StOk (s : List Nat) (st : St) : Prop := st.cur <:+: s ∧ ∀ p ∈ st.rest, p.1 <:+: s ∧ p.2 <:+: s
theorem infix_tail {c : Nat} {l s : List Nat} (h : (c :: l) <:+: s) : l <:+: s := (List.suffix_cons c l).isInfix.trans h
theorem nextM_of {s : List Nat} {c : Nat} {st st' : St} (e : nextM c st = some st') (h : StOk s st) : StOk s st' := by
  unfold nextM at e
  split at e
  · cases e
  · rename_i d l hc
    split at e
    · cases e
      have := h.1
      rw [hc] at this
      exact ⟨infix_tail this, h.2⟩
    · cases e
theorem quotedM_of : ∀ {n : Nat} {s t r : List Nat}, s.length ≤ n → quotedM s = some (t, r) → t.Sublist s ∧ r <:+ s
  | 0, [], t, r, _, e => by simp [quotedM] at e
  | 0, c :: s, t, r, h, e => by simp at h
  | n + 1, [], t, r, _, e => by simp [quotedM] at e
  | n + 1, c :: s, t, r, h, e => by
    unfold quotedM at e
    split at e
    · cases e; exact ⟨List.nil_sublist _, List.suffix_cons _ _⟩
    · split at e
      · cases e
      · split at e
        · split at e
          · rename_i d s'
            split at e
            · split at e
              · rename_i t' r' hq
                cases e
                obtain ⟨h1, h2⟩ := quotedM_of (n := n) (by simp at h; omega) hq
                exact ⟨(h1.cons_cons d).cons c, h2.trans ((List.suffix_cons _ _).trans (List.suffix_cons _ _))⟩
              · cases e
            · cases e
          · cases e
        · split at e
          · rename_i t' r' hq
            cases e
            obtain ⟨h1, h2⟩ := quotedM_of (n := n) (by simp at h; omega) hq
            exact ⟨h1.cons_cons c, h2.trans (List.suffix_cons _ _)⟩
          · cases e
theorem WsOk.cons {s : List Nat} {k : Int} {t : List Nat} {ks r : Wds} (h : WOk s ⟨k, t, ks⟩) (hr : WsOk s r) : WsOk s (.cons k t ks r) := by
  intro m w e
  cases m with
  | zero => cases e; exact h
  | succ m => exact hr m w e
theorem WsOk.nil (s : List Nat) : WsOk s .nil := fun k w e => by cases e
theorem loopW_of {s : List Nat} {word : St → Option (Wd × St)} (hw : ∀ st w st', StOk s st → word st = some (w, st') → WOk s w ∧ StOk s st') : ∀ {f : Nat} {st : St} {ws : Wds} {st' : St}, StOk s st → loopW word f st = some (ws, st') → WsOk s ws ∧ StOk s st'
  | 0, _, _, _, _, e => by cases e
  | f + 1, st, ws, st', h, e => by
    unfold loopW at e
    split at e
    · cases e
    · rename_i w st1 hx
      obtain ⟨w1, s1⟩ := hw _ _ _ h hx
      split at e
      · rename_i st2 hn
        have s2 := nextM_of hn s1
        split at e
        · rename_i ws' s3 hl
          cases e
          obtain ⟨w3, s3'⟩ := loopW_of hw s2 hl
          exact ⟨WsOk.cons (by cases w; exact w1) w3, s3'⟩
        · cases e
      · cases e
        exact ⟨WsOk.cons (by cases w; exact w1) (WsOk.nil s), s1⟩
theorem wordM_of {s : List Nat} : ∀ {n : Nat} {st : St} {w : Wd} {st' : St}, StOk s st → wordM n st = some (w, st') → WOk s w ∧ StOk s st'
  | n, ⟨[], []⟩, w, st', h, e => by simp [wordM] at e
  | n, ⟨[], (l, t) :: r⟩, w, st', h, e => by
    simp [wordM] at e
    obtain ⟨rfl, rfl⟩ := e
    have := h.2 (l, t) (by simp)
    exact ⟨⟨fun q => by simp at q, this.1.sublist⟩, this.2, fun p hp => h.2 p (List.mem_cons_of_mem _ hp)⟩
  | n, ⟨c :: cs, r⟩, w, st', h, e => by
    unfold wordM at e
    split at e
    · split at e
      · rename_i t s' hq
        cases e
        obtain ⟨h1, h2⟩ := quotedM_of (Nat.le_refl _) hq
        have hc := infix_tail h.1
        exact ⟨⟨fun q => by simp at q, h1.trans hc.sublist⟩, h2.isInfix.trans hc, h.2⟩
      · cases e
    · split at e
      · split at e
        · cases e
        · rename_i n'
          split at e
          · rename_i st2 hn
            cases e
            exact ⟨⟨fun q => by simp at q, List.nil_sublist _⟩, nextM_of hn ⟨infix_tail h.1, h.2⟩⟩
          · split at e
            · rename_i ws st3 hl
              split at e
              · rename_i st4 hn
                cases e
                obtain ⟨-, s3⟩ := loopW_of (fun st w st' hs he => wordM_of (n := n') hs he) (st := ⟨cs, r⟩) (⟨infix_tail h.1, h.2⟩ : StOk s ⟨cs, r⟩) hl
                exact ⟨⟨fun q => by simp at q, List.nil_sublist _⟩, nextM_of hn s3⟩
              · cases e
            · cases e
      · split at e
        · rename_i ha
          cases e
          have hp : (c :: cs).takeWhile atomC <:+: s := (List.takeWhile_prefix _).isInfix.trans h.1
          refine ⟨⟨fun _ => ⟨hp, ?_, fun x hx => mem_tw _ hx⟩, hp.sublist⟩, (List.dropWhile_suffix _).isInfix.trans h.1, h.2⟩
          simp [List.takeWhile, ha]
        · cases e
theorem parseM_of {s : List Nat} {texts lits : List (List Nat)} {ws : Wds} (ht : ∀ t ∈ texts, t <:+: s) (hl : ∀ t ∈ lits, t <:+: s) (e : parseM texts lits = some ws) : WsOk s ws := by
  unfold parseM at e
  split at e
  · cases e
  · rename_i t ts
    split at e
    · split at e
      · rename_i ws' st' hw
        split at e
        · cases e
          refine (loopW_of (fun st w st' hs he => wordM_of hs he) ⟨ht t (by simp), fun p hp => ?_⟩ hw).1
          obtain ⟨h1, h2⟩ := List.of_mem_zip hp
          exact ⟨hl _ h1, ht _ (List.mem_cons_of_mem _ h2)⟩
        · cases e
      · cases e
    · cases e
structure RdIn (u : List Nat) (r : Rd) : Prop where
  texts : ∀ t ∈ r.texts, t <:+: u
  lits : ∀ t ∈ r.lits, t <:+: u
  now : r.now <:+ u
  nz : (0 < r.skip ∨ r.literal = true ∨ r.line = true) → r.now = []
  lit : r.lit <:+ u
  lz : r.literal = false → r.lit = []
  sk : 0 < r.skip → r.literal = false
theorem RdIn.empty (u : List Nat) : RdIn u {} := ⟨by simp, by simp, List.nil_suffix, fun _ => rfl, List.nil_suffix, fun _ => rfl, fun _ => rfl⟩
theorem cutCR_pre (t : List Nat) : cutCR t <+: t := by
  unfold cutCR
  split
  · exact List.dropLast_prefix _
  · exact List.prefix_refl _
theorem markerM_pre {t a : List Nat} {n : Nat} {p : Bool} (e : markerM t = some (a, n, p)) : a <+: t := by
  unfold markerM at e
  split at e
  · split at e
    · cases e
    · split at e
      · split at e
        · cases e; exact List.take_prefix _ _
        · cases e
      · split at e
        · cases e; exact List.take_prefix _ _
        · cases e
  · cases e
theorem endM_of {most : Int} {u : List Nat} {r : Rd} {c : Nat} (h : RdIn u r) (hl : r.literal = false) (hs : ¬ 0 < r.skip) (hn : r.line = false) : RdIn (u ++ [c]) (endM most r).1 ∧ ∀ g ∈ (endM most r).2, WsOk u g.words := by
  have hcut : cutCR r.now <:+: u := (cutCR_pre _).isInfix.trans h.now.isInfix
  have up : ∀ {t : List Nat}, t <:+: u → t <:+: u ++ [c] := fun q => q.trans (List.prefix_append _ _).isInfix
  unfold endM
  split
  · split
    · rename_i ws hp
      refine ⟨RdIn.empty _, fun g hg => ?_⟩
      rw [List.mem_singleton.1 hg]
      refine parseM_of (fun t ht => ?_) h.lits hp
      rcases List.mem_append.1 ht with q | q
      · exact h.texts t q
      · rw [List.mem_singleton.1 q]; exact hcut
    · refine ⟨RdIn.empty _, fun g hg => ?_⟩
      rw [List.mem_singleton.1 hg]
      exact WsOk.nil _
  · rename_i ahead n plus hm
    split
    · split
      · refine ⟨⟨by simp, by simp, List.nil_suffix, fun _ => rfl, List.nil_suffix, fun _ => rfl, fun _ => rfl⟩, fun g hg => ?_⟩
        rw [List.mem_singleton.1 hg]
        exact WsOk.nil _
      · refine ⟨RdIn.empty _, fun g hg => ?_⟩
        rw [List.mem_singleton.1 hg]
        exact WsOk.nil _
    · refine ⟨⟨fun t ht => ?_, fun t ht => ?_, List.nil_suffix, fun _ => rfl, ?_, fun _ => h.lz hl, fun q => absurd q hs⟩, fun g hg => ?_⟩
      · rcases List.mem_append.1 ht with q | q
        · exact up (h.texts t q)
        · rw [List.mem_singleton.1 q]; exact up ((markerM_pre hm).isInfix.trans hcut)
      · simp only [] at ht
        split at ht
        · rcases List.mem_append.1 ht with q | q
          · exact up (h.lits t q)
          · rw [List.mem_singleton.1 q]; exact List.nil_infix
        · exact up (h.lits t ht)
      · simp only []
        rw [h.lz hl]; exact List.nil_suffix
      · simp only [] at hg
        split at hg
        · cases hg
        · rw [List.mem_singleton.1 hg]; exact WsOk.nil _
theorem suffix_snoc {l u : List Nat} (h : l <:+ u) (c : Nat) : l ++ [c] <:+ u ++ [c] := by
  obtain ⟨p, rfl⟩ := h
  exact ⟨p, by simp⟩
theorem feedM_of {most : Int} {u : List Nat} {r : Rd} {c : Nat} (h : RdIn u r) : RdIn (u ++ [c]) (feedM most r c).1 ∧ ∀ g ∈ (feedM most r c).2, WsOk (u ++ [c]) g.words := by
  have up : ∀ {t : List Nat}, t <:+: u → t <:+: u ++ [c] := fun q => q.trans (List.prefix_append _ _).isInfix
  have none : ∀ g ∈ ([] : List Got), WsOk (u ++ [c]) g.words := fun g hg => by cases hg
  unfold feedM
  split
  · rename_i hs
    have hs' : 0 < r.skip := hs
    have hl := h.sk hs'
    have hn := h.nz (.inl hs')
    refine ⟨⟨fun t q => up (h.texts t q), fun t q => up (h.lits t q), ?_, fun _ => hn, ?_, fun _ => h.lz hl, fun _ => hl⟩, none⟩
    · show r.now <:+ _; rw [hn]; exact List.nil_suffix
    · show r.lit <:+ _; rw [h.lz hl]; exact List.nil_suffix
  · rename_i hs
    split
    · rename_i hl
      have hn := h.nz (.inr (.inl hl))
      split
      · refine ⟨⟨fun t q => up (h.texts t q), fun t q => ?_, ?_, fun _ => hn, List.nil_suffix, fun _ => rfl, fun q => absurd q hs⟩, none⟩
        · rcases List.mem_append.1 q with q | q
          · exact up (h.lits t q)
          · rw [List.mem_singleton.1 q]; exact (suffix_snoc h.lit c).isInfix
        · show r.now <:+ _; rw [hn]; exact List.nil_suffix
      · refine ⟨⟨fun t q => up (h.texts t q), fun t q => up (h.lits t q), ?_, fun _ => hn, suffix_snoc h.lit c, fun q => ?_, fun q => absurd q hs⟩, none⟩
        · show r.now <:+ _; rw [hn]; exact List.nil_suffix
        · rw [show _ = r.literal from rfl] at q
          rw [hl] at q; cases q
    · rename_i hl
      have hl' : r.literal = false := by cases hh : r.literal with | false => rfl | true => exact absurd hh hl
      split
      · rename_i hln
        have hn := h.nz (.inr (.inr hln))
        refine ⟨⟨fun t q => up (h.texts t q), fun t q => up (h.lits t q), ?_, fun _ => hn, ?_, fun _ => h.lz hl', fun q => absurd q hs⟩, none⟩
        · show r.now <:+ _; rw [hn]; exact List.nil_suffix
        · show r.lit <:+ _; rw [h.lz hl']; exact List.nil_suffix
      · rename_i hln
        have hln' : r.line = false := by cases hh : r.line with | false => rfl | true => exact absurd hh hln
        split
        · obtain ⟨a, b⟩ := endM_of (most := most) (c := c) h hl' hs hln'
          exact ⟨a, fun g hg k w e => ⟨fun q => ⟨up ((b g hg k w e).1 q).1, ((b g hg k w e).1 q).2⟩, (b g hg k w e).2.trans (List.sublist_append_left _ _)⟩⟩
        · split
          · refine ⟨⟨by simp, by simp, List.nil_suffix, fun _ => rfl, List.nil_suffix, fun _ => rfl, fun _ => rfl⟩, fun g hg => ?_⟩
            rw [List.mem_singleton.1 hg]; exact WsOk.nil _
          · refine ⟨⟨fun t q => up (h.texts t q), fun t q => up (h.lits t q), suffix_snoc h.now c, fun q => ?_, ?_, fun _ => h.lz hl', fun q => absurd q hs⟩, none⟩
            · rcases q with q | q | q
              · exact absurd q hs
              · exact absurd q hl
              · exact absurd q hln
            · show r.lit <:+ _; rw [h.lz hl']; exact List.nil_suffix
theorem feedsM_of {most : Int} : ∀ {b u : List Nat} {r : Rd}, RdIn u r → ∀ g ∈ (feedsM most r b).2, WsOk (u ++ b) g.words
  | [], u, r, h, g, hg => by cases hg
  | c :: b, u, r, h, g, hg => by
    unfold feedsM at hg
    obtain ⟨h1, h2⟩ := feedM_of (most := most) (c := c) h
    rw [show u ++ c :: b = (u ++ [c]) ++ b by simp]
    rcases List.mem_append.1 hg with q | q
    · exact fun k w e => ⟨fun k1 => ⟨((h2 g q k w e).1 k1).1.trans (List.prefix_append _ _).isInfix, ((h2 g q k w e).1 k1).2⟩, (h2 g q k w e).2.trans (List.sublist_append_left _ _)⟩
    · exact feedsM_of h1 g q
theorem told_of (most : Int) (s : List Nat) : ∀ g ∈ (feedsM most {} s).2, WsOk s g.words := feedsM_of (u := []) (RdIn.empty [])
end Go.Ln
