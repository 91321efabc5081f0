/- Part of the value machine, or of a walk by it: lemmas that the claim's last text uses. No conditions. -/
import Derived.Test.YtnlbcbjgejpanaaGreatDoorSeVmE
import Derived.ProofKit
import Derived.OpenShut
import Derived.ShutString
import Derived.ChangeOld
import Derived.Below
set_option linter.unusedVariables false
set_option linter.unusedSimpArgs false
set_option linter.unnecessarySimpa false
namespace Go.Vm
noncomputable section
open Go.ChangeShapes Go.WideShapes Go.ChangeAt Go.RowKit
variable {P : Program} {G : Nat} {M N : Mp} {h : Hp} {w : World}
theorem Seen.row (S : Seen G M h w) {blk off : Nat} {cs : List V} (hne : cs ≠ []) (hc : ∀ k v, cs[k]? = some v → ∃ x, w.cell? ⟨blk, off + k, none⟩ = some x ∧ scalar x = true ∧ Rp M v x) :
    ∃ sz, Seen G (M.add h.next ⟨blk, off, sz⟩) (h.new (.cells .ro cs)) w ∧ M.le (M.add h.next ⟨blk, off, sz⟩) := by
  have hnone : M h.next = none := S.rel.fresh _ (Nat.le_refl _)
  obtain ⟨v0, hv0⟩ : ∃ v, cs[0]? = some v := by
    cases cs with
    | nil => exact absurd rfl hne
    | cons v l => exact ⟨v, rfl⟩
  obtain ⟨x0, hx0, -, -⟩ := hc 0 v0 hv0
  obtain ⟨c, el, fr, hb⟩ : ∃ c el fr, w.heap[blk]? = some (.cells c el fr) := by
    unfold World.cell? at hx0
    split at hx0
    · rename_i c el fr hb; exact ⟨c, el, fr, hb⟩
    · cases hx0
  have hle := Mp.le_add hnone ⟨blk, off, c.size⟩
  refine ⟨c.size, ⟨⟨fun i p hi => ?_, fun i hi => ?_, fun i j p q L K hn hi hj hp hL hK => ?_, fun g hg => ?_⟩, fun i o hi => ?_⟩, hle⟩
  · by_cases e : i = h.next
    · subst e
      rw [h.get_new_self] at hi
      cases hi
      refine ⟨_, M.add_self _ _, c, el, fr, hb, rfl, fun k v hk => ?_, trivial⟩
      obtain ⟨x, hx, hs, hr⟩ := hc k v hk
      refine ⟨x, ?_, hr.mono hle, hs⟩
      simpa [World.cell?, hb] using hx
    · rw [h.get_new_ne e] at hi
      obtain ⟨L, hL, hr⟩ := S.rel.ob i p hi
      exact ⟨L, by rw [M.add_ne e]; exact hL, hr.mono hle⟩
  · have hs : (h.new (.cells .ro cs)).next.nat = h.next.nat + 1 := Pos.nat_succ _
    rw [hs] at hi
    have e : i ≠ h.next := fun e => by rw [e] at hi; omega
    rw [M.add_ne e]
    exact S.rel.fresh i (by omega)
  · have ei : i ≠ h.next := by
      intro e; subst e
      rw [h.get_new_self] at hi; cases hi; cases hp
    rw [h.get_new_ne ei] at hi
    have := S.un i p hi
    rw [hp] at this; cases this
  · obtain ⟨z, hz⟩ := S.rel.gl g hg
    exact ⟨z, hle _ _ hz⟩
  · by_cases e : i = h.next
    · subst e; rw [h.get_new_self] at hi; cases hi; rfl
    · rw [h.get_new_ne e] at hi; exact S.un i o hi
section
variable {H : Type} {enc : TypeId × Value → H} {base : Nat} {spare : Nat → Bool} {held : Bool}
theorem open_rowK {t e n fuel : Nat} {x : DataW H × List MemPlace} {cs : List Value} (ht : P.underlying t = some (.slice e)) (hn : P.cellsOf e = n) (hn0 : 0 < n) {Q : List V → Prop}
    (rd : ∀ fuel cs x, DataW.trod enc P w base spare held fuel e cs = some x → cs.length = n → ∃ vs, vs.length = n ∧ Q vs ∧ (∀ N, RepL N vs cs) ∧ ∀ y ∈ cs, scalar y = true)
    (hd : DataW.trod enc P w base spare held fuel t cs = some x) (S : Seen G M h w) :
    ∃ (c : Value) (v : V) (M' : Mp) (h' : Hp) (els : List (List V)), cs = [c] ∧ Rp M' v c ∧ Seen G M' h' w ∧ M.le M' ∧ (∀ vs ∈ els, Q vs ∧ vs.length = n) ∧ els.length ≤ 9223372036854775807 ∧
      ((v = .nils ∧ h' = h ∧ els = []) ∨ (v = .emp ∧ h' = h ∧ els = []) ∨ (∃ cap, v = .slice h.next 0 els.length (.kn cap) ∧ h' = h.new (.cells .ro els.flatten) ∧ 0 < els.length ∧ els.length ≤ cap)) := by
  rcases DataW.trod_slice ht hd with ⟨rfl, rfl⟩ | ⟨a, len, cap, elems, rest, m, rfl, rfl, rfl, hb, hl, hm, hlen, hel, -, -⟩
  · exact ⟨_, .nils, M, h, [], rfl, ⟨rfl, rfl⟩, S, Mp.le_refl _, fun _ h => (by cases h), by simp, .inl ⟨rfl, rfl, rfl⟩⟩
  · -- each element
    have each : ∀ i, i < len → ∃ vs, vs.length = n ∧ Q vs ∧ ∀ j v, vs[j]? = some v → ∃ x, w.cell? (a.add (i * n + j)) = some x ∧ scalar x = true ∧ ∀ N, Rp N v x := fun i hi => by
      have h1 := hel i hi
      rw [hn, List.getElem?_eq_getElem (by omega), Option.bind_eq_some_iff] at h1
      obtain ⟨cs', h2, h3⟩ := h1
      obtain ⟨-, hl', hc'⟩ := World.cells?_some h2
      obtain ⟨vs, hv1, hv2, hv3, hv4⟩ := rd m cs' _ h3 hl'
      refine ⟨vs, hv1, hv2, fun j v hj => ?_⟩
      have hj' : j < n := by
        have := (List.getElem?_eq_some_iff.1 hj).1
        omega
      have h5 : (a.add (i * n)).add j = a.add (i * n + j) := by
        generalize i * n = p
        by_cases e1 : p = 0 <;> by_cases e2 : j = 0 <;> simp [Addr.add, e1, e2, Nat.add_assoc]
      have h4 := hc' j hj'
      rw [h5] at h4
      obtain ⟨x, hx, hr⟩ := (hv3 M).get hj
      refine ⟨x, by rw [h4, hx], hv4 x (List.mem_of_getElem? hx), fun N => ?_⟩
      obtain ⟨x', hx', hr'⟩ := (hv3 N).get hj
      rw [hx] at hx'; cases hx'
      exact hr'
    by_cases h0 : len = 0
    · subst h0
      exact ⟨_, .emp, M, h, [], rfl, ⟨rfl, a, cap, rfl⟩, S, Mp.le_refl _, fun _ h => (by cases h), by simp, .inr (.inl ⟨rfl, rfl, rfl⟩)⟩
    · -- all of them
      have all : ∀ l, l ≤ len → ∃ els : List (List V), els.length = l ∧ (∀ vs ∈ els, Q vs ∧ vs.length = n) ∧ els.flatten.length = l * n ∧ ∀ k v, els.flatten[k]? = some v → ∃ x, w.cell? (a.add k) = some x ∧ scalar x = true ∧ ∀ N, Rp N v x := by
        intro l
        induction l with
        | zero => intro _; exact ⟨[], rfl, fun _ h => (by cases h), by simp, fun k v hk => by simp at hk⟩
        | succ l ih =>
          intro hl'
          obtain ⟨els, h1, h2, h3, h4⟩ := ih (by omega)
          obtain ⟨vs, g1, g2, g3⟩ := each l (by omega)
          refine ⟨els ++ [vs], by simp [h1], fun us hu => ?_, by simp [h3, g1, Nat.succ_mul], fun k v hk => ?_⟩
          · rcases List.mem_append.1 hu with hu | hu
            · exact h2 us hu
            · rw [List.mem_singleton.1 hu]; exact ⟨g2, g1⟩
          · rw [List.flatten_append, List.getElem?_append] at hk
            split at hk
            · exact h4 k v hk
            · rename_i hge
              simp only [List.flatten_cons, List.flatten_nil, List.append_nil] at hk
              rw [h3] at hk hge
              have := g3 (k - l * n) v hk
              rwa [show l * n + (k - l * n) = k from by omega] at this
      obtain ⟨els, h1, h2, h3, h4⟩ := all len (Nat.le_refl _)
      have hne : els.flatten ≠ [] := by
        intro e
        rw [e] at h3
        have : 0 < len * n := Nat.mul_pos (by omega) hn0
        simp at h3; omega
      -- the address has no spot
      obtain ⟨ab, ao, asp⟩ := a
      have has : asp = none := by
        obtain ⟨v0, hv0⟩ : ∃ v, els.flatten[0]? = some v := by
          cases hf : els.flatten with
          | nil => exact absurd hf hne
          | cons v l => exact ⟨v, rfl⟩
        obtain ⟨x, hx, -, -⟩ := h4 0 v0 hv0
        simpa [Addr.add] using World.cell?_spot hx
      subst has
      obtain ⟨sz, S', hle⟩ := S.row (blk := ab) (off := ao) hne fun k v hk => by
        obtain ⟨x, hx, hs, hr⟩ := h4 k v hk
        have ea : (Addr.mk ab ao none).add k = ⟨ab, ao + k, none⟩ := by by_cases e1 : k = 0 <;> simp [Addr.add, e1]
        exact ⟨x, by rw [← ea]; exact hx, hs, hr M⟩
      refine ⟨_, .slice h.next 0 len (.kn cap), _, _, els, rfl, ⟨rfl, _, cap, M.add_self _ _, ⟨rfl, hl⟩, rfl⟩, S', hle, h2, by rw [h1]; unfold maxLen at hm; omega, .inr (.inr ⟨cap, by rw [h1], rfl, by omega, by omega⟩)⟩
theorem rd_int {e : TypeId} {k : IntKind} (he : P.underlying e = some (.int k)) : ∀ fuel cs x, DataW.trod enc P w base spare held fuel e cs = some x → cs.length = 1 → ∃ vs : List V, vs.length = 1 ∧ (∃ z, vs = [.int k z] ∧ (Lit.int k z).wf = true) ∧ (∀ N, RepL N vs cs) ∧ ∀ y ∈ cs, scalar y = true := by
  intro fuel cs x hx _
  obtain ⟨z, rfl, -, hw⟩ := DataW.trod_int he hx
  exact ⟨[.int k z], rfl, ⟨z, rfl, hw⟩, fun N => ⟨_, [], rp_int N k z, rfl, rfl⟩, fun y hy => by rw [List.mem_singleton.1 hy]; rfl⟩
end
end
end Go.Vm
