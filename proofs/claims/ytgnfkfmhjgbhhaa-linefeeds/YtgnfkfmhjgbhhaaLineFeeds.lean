/- The program's reader and the second reader, written from the document, tell the same for every row of byte slices that is fed. No conditions. -/
import Derived.Test.YtgnfkfmhjgbhhaaRows
import Derived.Test.YtgnfkfmhjgbhhaaLineFeedsB
import Derived.Test.YtgnfkfmhjgbhhaaVmC
set_option linter.unusedVariables false
set_option linter.unusedSimpArgs false
set_option linter.unnecessarySimpa false
noncomputable section
namespace Go.Proofs.Ytgnfkfmhjgbhhaa.LineFeedsZ
open Go Go.Proofs Go.Vm
open Go.ChangeShapes Go.WideShapes Go.ChangeAt Go.RowKit
set_option linter.unusedVariables false
set_option maxRecDepth 100000
theorem u8_nat {z : Int} (h : (Lit.int .u8 z).wf = true) : ∃ n : Nat, z = (n : Int) ∧ n < 256 := by
  have h' : 0 ≤ z ∧ z ≤ 255 := by simpa [Lit.wf, IntKind.min, IntKind.max, IntKind.signed, IntKind.bits] using h
  exact ⟨z.toNat, by omega, by omega⟩
theorem flat_u8 {els : List (List V)} (h : ∀ vs ∈ els, (∃ z, vs = [V.int .u8 z] ∧ (Lit.int .u8 z).wf = true) ∧ vs.length = 1) : ∃ bs : List Nat, els.flatten = bys bs ∧ els.length = bs.length ∧ ∀ x ∈ bs, x < 256 := by
  obtain ⟨l, h1, h2, h3⟩ := flat_int (R := fun z => (Lit.int .u8 z).wf = true) h
  have h4 : ∀ l : List Int, (∀ z ∈ l, (Lit.int .u8 z).wf = true) → ∃ bs : List Nat, l.map (V.int .u8) = bys bs ∧ l.length = bs.length ∧ ∀ x ∈ bs, x < 256 := by
    intro l
    induction l with
    | nil => intro _; exact ⟨[], rfl, rfl, fun x hx => by cases hx⟩
    | cons z l ih =>
      intro hl
      obtain ⟨bs, b1, b2, b3⟩ := ih fun y hy => hl y (by simp [hy])
      obtain ⟨n, hn, hn2⟩ := u8_nat (hl z (by simp))
      subst hn
      exact ⟨n :: bs, by rw [List.map_cons, b1]; rfl, by simp [b2], fun x hx => by rcases List.mem_cons.1 hx with rfl | hx; exact hn2; exact b3 x hx⟩
  obtain ⟨bs, b1, b2, b3⟩ := h4 l h3
  exact ⟨bs, by rw [h1, b1], by rw [h2, b2], b3⟩
theorem capOk_of {v : V} {n : Nat} (h : ∀ i o m c, v = .slice i o m c → ∃ k, c = .kn k ∧ m ≤ k) : capOk n v := by
  intro i o m c e
  obtain ⟨k, rfl, hk⟩ := h i o m c e
  exact hk
theorem i64_of {z : Int} (h : (Lit.int .i64 z).wf = true) : -9223372036854775808 ≤ z ∧ z < 9223372036854775808 := by
  have h' : -9223372036854775808 ≤ z ∧ z ≤ 9223372036854775807 := by simpa [Lit.wf, IntKind.min, IntKind.max, IntKind.signed, IntKind.bits] using h
  omega
/-- rows of bytes that came in, in a row -/
theorem open_rows {H : Type} {enc : TypeId × Value → H} {P : Program} {W : World} {base : Nat} {spare : Nat → Bool} {held : Bool} {M : Mp} {h : Hp} {t e b fuel : Nat} {x : DataW H × List MemPlace} {cs : List Value} (ht : P.underlying t = some (.slice e)) (hn : P.cellsOf e = 1) (he : P.underlying e = some (.slice b)) (hb1 : P.cellsOf b = 1) (hu : P.underlying b = some (.int .u8))
    (hd : DataW.trod enc P W base spare held fuel t cs = some x) (S : Seen M h W) :
    ∃ (c : Value) (v : V) (M' : Mp) (h' : Hp) (ls : List (List Nat)), cs = [c] ∧ Rp M' v c ∧ Seen M' h' W ∧ M.le M' ∧ Ins h'.next.nat h' v ls ∧ ls.length ≤ 9223372036854775807 ∧ ∀ l ∈ ls, ∀ x ∈ l, x < 256 := by
  rcases DataW.trod_slice ht hd with ⟨rfl, rfl⟩ | ⟨a, len, cap, elems, rest, m, rfl, rfl, rfl, hb, hl, hm, hlen, hel, -, -⟩
  · exact ⟨_, .nils, M, h, [], rfl, ⟨rfl, rfl⟩, S, Mp.le_refl _, ⟨[], ⟨by simp, .inl ⟨rfl, .inl rfl⟩⟩, fun k l hk => by simp at hk⟩, by simp, fun l hl => by cases hl⟩
  · by_cases h0 : len = 0
    · subst h0
      exact ⟨_, .emp, M, h, [], rfl, ⟨rfl, a, cap, rfl⟩, S, Mp.le_refl _, ⟨[], ⟨by simp, .inl ⟨rfl, .inr rfl⟩⟩, fun k l hk => by simp at hk⟩, by simp, fun l hl => by cases hl⟩
    · have all : ∀ l, l ≤ len → ∃ (M' : Mp) (h' : Hp) (vs : List V) (ls : List (List Nat)), Seen M' h' W ∧ M.le M' ∧ vs.length = l ∧ ls.length = l ∧
          (∀ (k : Nat) (v : V), vs[k]? = some v → ∃ c, W.cell? (a.add k) = some c ∧ scalar c = true ∧ Rp M' v c) ∧ (∀ (k : Nat) (l : List Nat), ls[k]? = some l → ∃ v, vs[k]? = some v ∧ Sl h'.next.nat h' 1 v l.length (bys l) ∧ capOk 1 v) ∧ ∀ l ∈ ls, ∀ x ∈ l, x < 256 := by
        intro l
        induction l with
        | zero => intro _; exact ⟨M, h, [], [], S, Mp.le_refl _, rfl, rfl, fun k v hk => by simp at hk, fun k l hk => by simp at hk, fun l hl => by cases hl⟩
        | succ l ih =>
          intro hl'
          obtain ⟨M', h', vs, ls, S', le', g1, g2, g3, g4, g5⟩ := ih (by omega)
          have e1 := hel l (by omega)
          rw [hn, List.getElem?_eq_getElem (by omega), Option.bind_eq_some_iff] at e1
          obtain ⟨cs', e2, e3⟩ := e1
          obtain ⟨-, el, ec⟩ := World.cells?_some e2
          have hsc : ∀ c, cs' = [c] → scalar c = true := fun c hc => by
            rcases DataW.trod_slice he e3 with ⟨q, -⟩ | ⟨_, _, _, _, _, _, -, q, -⟩
            · rw [q] at hc; cases hc; rfl
            · rw [q] at hc; cases hc; rfl
          obtain ⟨c, v, M2, h2, els, hc, r, S2, le2, fr2, q2, s2, -, y2⟩ := open_rowK (n := 1) he hb1 (by omega) (rd_int hu) e3 S'
          obtain ⟨bs, b1, b2, b3⟩ := flat_u8 q2
          rw [b1, b2] at s2
          have hca := ec 0 (by omega)
          rw [hc] at hca
          have hadd : (a.add (l * 1)).add 0 = a.add l := by
            rw [Nat.mul_one]
            by_cases z1 : l = 0 <;> simp [Addr.add, z1]
          rw [hadd] at hca
          refine ⟨M2, h2, vs ++ [v], ls ++ [bs], S2, fun i L hi => le2 i L (le' i L hi), by simp [g1], by simp [g2], fun k u hk => ?_, fun k u hk => ?_, fun u hu => ?_⟩
          · rw [List.getElem?_append] at hk
            split at hk
            · obtain ⟨c', w1, w2, w3⟩ := g3 k u hk
              exact ⟨c', w1, w2, w3.mono le2⟩
            · have hk0 : k - vs.length = 0 := by
                have := (List.getElem?_eq_some_iff.1 hk).1
                simp at this; omega
              rw [hk0] at hk
              cases hk
              have hkl : k = l := by omega
              subst hkl
              exact ⟨c, hca, hsc c hc, r⟩
          · rw [List.getElem?_append] at hk
            split at hk
            · obtain ⟨v', w1, w2, w3⟩ := g4 k u hk
              exact ⟨v', by rw [List.getElem?_append, if_pos (by omega)]; exact w1, (w2.fr fr2).le fr2.next, w3⟩
            · have hk0 : k - ls.length = 0 := by
                have := (List.getElem?_eq_some_iff.1 hk).1
                simp at this; omega
              rw [hk0] at hk
              cases hk
              have hkl : k = l := by omega
              subst hkl
              exact ⟨v, by rw [List.getElem?_append, if_neg (by omega), g1, Nat.sub_self]; rfl, s2, capOk_of y2⟩
          · rcases List.mem_append.1 hu with hu | hu
            · exact g5 u hu
            · rw [List.mem_singleton.1 hu]; exact b3
      obtain ⟨M', h', vs, ls, S', le', g1, g2, g3, g4, g5⟩ := all len (Nat.le_refl _)
      have hne : vs ≠ [] := by
        intro e
        rw [e] at g1
        simp at g1; omega
      obtain ⟨ab, ao, asp⟩ := a
      have has : asp = none := by
        obtain ⟨v0, hv0⟩ : ∃ v, vs[0]? = some v := by
          cases hf : vs with
          | nil => exact absurd hf hne
          | cons v l => exact ⟨v, rfl⟩
        obtain ⟨x, hx, -, -⟩ := g3 0 v0 hv0
        simpa [Addr.add] using World.cell?_spot hx
      subst has
      obtain ⟨sz, S2, hle⟩ := S'.row (blk := ab) (off := ao) hne fun k v hk => by
        obtain ⟨x, hx, hs, hr⟩ := g3 k v hk
        have ea : (Addr.mk ab ao none).add k = ⟨ab, ao + k, none⟩ := by by_cases e1 : k = 0 <;> simp [Addr.add, e1]
        exact ⟨x, by rw [← ea]; exact hx, hs, hr⟩
      have fr3 : Fr h'.next.nat h' (h'.new (.cells false vs)) := Fr.new _ (Nat.le_refl _)
      refine ⟨_, .slice h'.next 0 len (.kn cap), _, _, ls, rfl, ⟨rfl, _, cap, M'.add_self _ _, ⟨rfl, hl⟩, rfl⟩, S2, fun i L hi => hle i L (le' i L hi), ⟨vs, ?_, fun k l hk => ?_⟩, by rw [g2]; unfold maxLen at hm; omega, g5⟩
      · rw [g2]
        exact ⟨by rw [g1, Nat.mul_one], .inr ⟨h'.next, 0, .kn cap, false, vs, rfl, by rw [new_next_nat]; omega, by rw [new_self]; rfl, fun k _ => by rw [Nat.zero_add]⟩⟩
      · obtain ⟨v, w1, w2, w3⟩ := g4 k l hk
        exact ⟨v, w1, (w2.fr fr3).le fr3.next, w3⟩
theorem walk {H : Type} {enc : TypeId × Value → H} (W : World) {base : Nat} {v0 v1 : Value} {d0 d1 : DataW H} {p0 p1 : List MemPlace}
    (o0 : Value.okWide Try.prog W .any base 3 v0) (k0 : DataW.Trod enc Try.prog W 0 (fun _ => true) true 3 v0 d0 p0)
    (o1 : Value.okWide Try.prog W .any base 22 v1) (k1 : DataW.Trod enc Try.prog W 0 (fun _ => true) true 22 v1 d1 p1)
    : Calls Try.prog 3 #[v0, v1] W fun e w' => e = .returned (.bool true) ∧ Below W.heap.size W w' := by
  obtain ⟨most, rfl, -, -, w0⟩ := open_int Try.underlying3 o0 k0
  obtain ⟨l1, c10, c11, rfl⟩ := okWide_slice Try.underlying22 o1
  obtain ⟨m1, j1⟩ := k1
  obtain ⟨x1, w1, M1, h1, ls, hc1, r1, S1, -, s1, z1, b1⟩ := open_rows Try.underlying22 (by kernel_rfl) Try.underlying32 (by kernel_rfl) Try.underlying5 j1 (Seen.empty W)
  simp [Value.cells] at hc1
  subst hc1
  obtain ⟨h3, e⟩ := feeds_ok (i64_of w0) s1 (Nat.le_refl _) (by omega) b1
  exact calls_of_vm (cargs := [_, _]) (args := [.int .i64 most, w1]) Tryc3 Try.func3 (by kernel_rfl) (c := codeOf Try.f3) (by kernel_rfl) S1 ⟨_, _, rp_int _ _ _, ⟨_, _, r1, rfl, rfl⟩, rfl⟩ e
theorem own : ownKnob Try.prog.godebug = none := by kernel_rfl
theorem laidOut : laidOutB Try.prog = true := by kernel_rfl
theorem lifted (os : Os) (started : os.Started) (H : Type) (enc : TypeId × Value → H) :
    ReturnsInHanded {} Try.checked os 3 .any (Rows.lineFeedsSpec.pre6 enc Try.prog Try.f3 Rows.lineFeedsRow.domain false) (Rows.lineFeedsSpec.post enc Try.prog Try.f3 false true false false) := by
  refine returnsInHanded_of_change (C := Try.checked) own started (by kernel_rfl) Try.func3
    (ChangeSpec.witness6 (enc := enc) (C := Try.checked) false ⟨#[], #[.int .i64 0, .slice none 0 0], []⟩ 8 (by kernel_rfl) (by kernel_rfl) (by kernel_rfl) (by kernel_rfl)) ?_
  intro W base args ds gs before hval0 hW hcnd _
  have hval : ∀ (j : Nat) t v, Try.f3.params[j]? = some t → args[j]? = some v → Value.okWide Try.prog W .any base t v := hval0
  have hW' := hW
  obtain ⟨p, q, hA0, hV, rfl, hfz, hnd⟩ := hW
  have hA : DataW.TrodAll enc Try.prog W 0 (fun _ => true) true Try.f3.params.toList args.toList ds p := hA0
  rw [Try.params3] at hA hval
  obtain ⟨v0, vs0, d0, ds0, p0, q0, hargs, rfl, rfl, k0, r0⟩ := trodAll_cons hA
  obtain ⟨v1, vs1, d1, ds1, p1, q1, rfl, rfl, rfl, k1, r1⟩ := trodAll_cons r0
  obtain ⟨rfl, rfl, rfl⟩ := trodAll_nil r1
  obtain rfl : args = #[v0, v1] := by cases args; simp_all
  obtain ⟨rfl, rfl⟩ := trodVars_none hV
  have lt0 : ∀ x ∈ p0, x.block < W.heap.size := by obtain ⟨m, hm⟩ := k0; exact DataW.trod_lt m _ _ _ hm
  have lt1 : ∀ x ∈ p1, x.block < W.heap.size := by obtain ⟨m, hm⟩ := k1; exact DataW.trod_lt m _ _ _ hm
  clear hA0 hval0
  refine (walk W (hval 0 3 v0 rfl rfl) k0 (hval 1 22 v1 rfl rfl) k1).mono fun e W' ⟨he, bel⟩ => ?_
  subst he
  exact ⟨_, rfl, _, _, _, [], _, [], hW', trodAll_mk1 (shut_bool Try.underlying4 _), (trodAll_cons_mk (Below.trod laidOut (by kernel_rfl) (of_decide_eq_true (by kernel_rfl)) k0 bel lt0) (trodAll_cons_mk (Below.trod laidOut (by kernel_rfl) (of_decide_eq_true (by kernel_rfl)) k1 bel lt1) trodAll_mk0)), rfl, bel.frame _, fun h => by cases h⟩
theorem over : Rows.lineFeedsRow.holds Try.pinned (OpenSpec.ofChange Rows.lineFeedsSpec) :=
  OpenClaim.holds_of_wide 3 Try.f3 rfl rfl rfl rfl rfl rfl rfl ⟨rfl, rfl, rfl, rfl, rfl⟩ rfl rfl rfl rfl rfl (by kernel_rfl) Try.func3 (by kernel_rfl)
    (of_decide_eq_true (by kernel_rfl)) (by unfold Func.isWrapper; first | (rw [if_pos (by decide +kernel)]; kernel_rfl) | (rw [if_neg (by decide +kernel)]; exact ⟨rfl, rfl⟩))
    (fun os started H enc _ => lifted os started H enc)
/-- THE STATEMENT -/
theorem holds : Rows.LineFeedsSaid := over
#print axioms holds
end Go.Proofs.Ytgnfkfmhjgbhhaa.LineFeedsZ
